/- Written by this session's own program (xprint, made over the kit's print): Lean functions with the same answers as the Go functions, and the proofs of that. Not trusted: Lean checks it. -/
import Derived.Test.YtkijneohhilboaaGreatDoorPKx0
import Derived.Test.YtkijneohhilboaaGreatDoorPKx1
import Derived.Test.YtkijneohhilboaaGreatDoorPKx6
import Derived.Test.YtkijneohhilboaaGreatDoorPKx8
import Derived.Test.YtkijneohhilboaaGreatDoorPKx9
import Derived.Test.YtkijneohhilboaaGreatDoorPKx12
import Derived.Test.YtkijneohhilboaaGreatDoorXW
import Derived.Test.YtkijneohhilboaaGreatDoorXZ
namespace Go.Proofs.YtkijneohhilboaaGreatDoor.PK
open Go.Proofs.YtkijneohhilboaaGreatDoor.XZ
open Go.Proofs.YtkijneohhilboaaGreatDoor.XW Go.RowKit Go.Proofs.YtkijneohhilboaaGreatDoorW.PrintWords Go.Proofs.YtkijneohhilboaaGreatDoorW.PrintLast Go.Proofs.YtkijneohhilboaaGreatDoorW.PrintMore
attribute [local go_sem] max2_int min2_int max_two min_two max_three min_three max_four min_four   -- for this text's walks alone
set_option linter.unusedVariables false
set_option linter.unusedSimpArgs false

attribute [local go_sem high] eqA26
/-! ### targumlaw7_Float11Gaps: function 6 -/
mutual
def targumlaw7_Float11Gaps.j0 : Nat → ByteArray → ByteArray → Int → Int → Bool → Option (Bool)
 | 0, _, _, _, _, _ => none
 | k + 1, x0, x1, x2, x3, x35 => if x35 = true then (some true) else ((targumlaw7_digits.f k x0).bind fun t325 => (if t325.size + 1 ≤ 9223372036854775807 then ((targumlaw7_digits.f k x1).bind fun t326 => (if (t325 ++ (⟨#[46]⟩ : ByteArray)).size + t326.size ≤ 9223372036854775807 then (if (((t325 ++ (⟨#[46]⟩ : ByteArray)) ++ t326).size : Int) = 0 then (none) else (targumlaw7_Float11Gaps.l0 k x0 x1 x3 ((t325 ++ (⟨#[46]⟩ : ByteArray)) ++ t326) (wrap64 (1 + (Int.tmod (wrap64 (x2)) (((t325 ++ (⟨#[46]⟩ : ByteArray)) ++ t326).size : Int)))) (⟨#[]⟩ : ByteArray) 0)) else (none))) else (none)))
def targumlaw7_Float11Gaps.l0 : Nat → ByteArray → ByteArray → Int → ByteArray → Int → ByteArray → Int → Option (Bool)
 | 0, _, _, _, _, _, _, _ => none
 | k + 1, x0, x1, x3, x9, x10, x11, x12 => if x12 < (wrap64 (Int.tmod x3 5)) then (if x11.size + 1 ≤ 9223372036854775807 then (targumlaw7_Float11Gaps.l0 k x0 x1 x3 x9 x10 (x11 ++ (⟨#[95]⟩ : ByteArray)) (wrap64 (x12 + 1))) else (none)) else ((float11_Of.f k x9).bind fun bt327 => (if 0 ≤ x10 then (if x10 ≤ (x9.size : Int) then (if (x9.extract 0 (x10 : Int).toNat).size + x11.size ≤ 9223372036854775807 then (if ((x9.extract 0 (x10 : Int).toNat) ++ x11).size + (x9.extract (x10 : Int).toNat x9.size).size ≤ 9223372036854775807 then ((float11_Of.f k (((x9.extract 0 (x10 : Int).toNat) ++ x11) ++ (x9.extract (x10 : Int).toNat x9.size))).bind fun bt333 => (if (((x9.extract 0 (x10 : Int).toNat) ++ x11) ++ (x9.extract (x10 : Int).toNat x9.size)).size + 3 ≤ 9223372036854775807 then ((float11_Of.f k ((((x9.extract 0 (x10 : Int).toNat) ++ x11) ++ (x9.extract (x10 : Int).toNat x9.size)) ++ (⟨#[101, 45, 55]⟩ : ByteArray))).bind fun bt339 => ((targumlaw7_digits.f k x0).bind fun t345 => ((targumlaw7_digits.f k x1).bind fun t346 => ((targumref4_Make.f k false t345 t346 (⟨#[45, 55]⟩ : ByteArray)).bind fun bt347 => (if bt327.2.2.2.2 = true then (if bt333.2.2.2.2 = true then (if bt339.2.2.2.2 = true then (if (bt327.1 == bt333.1 && (bt327.2.1 == bt333.2.1 && (bt327.2.2.1.toList == bt333.2.2.1.toList && (bt327.2.2.2.1.toList == bt333.2.2.2.1.toList)))) = true then (if (bt339.1 == bt347.1 && (bt339.2.1 == bt347.2.1 && (bt339.2.2.1.toList == bt347.2.2.1.toList && (bt339.2.2.2.1.toList == bt347.2.2.2.1.toList)))) = true then (if x11.toList = ([] : List UInt8) then (if x9.size + 2 ≤ 9223372036854775807 then (if (x9 ++ (⟨#[101, 45]⟩ : ByteArray)).size + x11.size ≤ 9223372036854775807 then (if ((x9 ++ (⟨#[101, 45]⟩ : ByteArray)) ++ x11).size + 1 ≤ 9223372036854775807 then ((float11_Is.f k (((x9 ++ (⟨#[101, 45]⟩ : ByteArray)) ++ x11) ++ (⟨#[95]⟩ : ByteArray))).bind fun t353 => (some (!t353))) else (none)) else (none)) else (none)) else (if x11.size + x9.size ≤ 9223372036854775807 then ((float11_Is.f k (x11 ++ x9)).bind fun t354 => (if t354 = true then (some false) else (if x9.size + 2 ≤ 9223372036854775807 then (if (x9 ++ (⟨#[101, 45]⟩ : ByteArray)).size + x11.size ≤ 9223372036854775807 then (if ((x9 ++ (⟨#[101, 45]⟩ : ByteArray)) ++ x11).size + 1 ≤ 9223372036854775807 then ((float11_Is.f k (((x9 ++ (⟨#[101, 45]⟩ : ByteArray)) ++ x11) ++ (⟨#[95]⟩ : ByteArray))).bind fun t355 => (some (!t355))) else (none)) else (none)) else (none)))) else (none))) else (some false)) else (some false)) else (some false)) else (some false)) else (some false)))))) else (none))) else (none)) else (none)) else (none)) else (none)))
end
def targumlaw7_Float11Gaps.f (k : Nat) (a0 : ByteArray) (a1 : ByteArray) (a2 : Int) (a3 : Int) : Option (Bool) := (targumlaw7_known.f k).bind fun t324 => (if t324 = true then (if (a0.size : Int) < 1 then (targumlaw7_Float11Gaps.j0 k a0 a1 a2 a3 true) else (if (a0.size : Int) > 30 then (targumlaw7_Float11Gaps.j0 k a0 a1 a2 a3 true) else (targumlaw7_Float11Gaps.j0 k a0 a1 a2 a3 (decide ((a1.size : Int) > 30))))) else (some false))
theorem targumlaw7_Float11Gaps.mono_l : ∀ k, (∀ y0 y1 y2 y3 y4, LeO (targumlaw7_Float11Gaps.j0 k y0 y1 y2 y3 y4) (targumlaw7_Float11Gaps.j0 (k + 1) y0 y1 y2 y3 y4)) ∧ (∀ y0 y1 y2 y3 y4 y5 y6, LeO (targumlaw7_Float11Gaps.l0 k y0 y1 y2 y3 y4 y5 y6) (targumlaw7_Float11Gaps.l0 (k + 1) y0 y1 y2 y3 y4 y5 y6))
 | 0 => ⟨fun _ _ _ _ _ r h => by simp [targumlaw7_Float11Gaps.j0] at h, fun _ _ _ _ _ _ _ r h => by simp [targumlaw7_Float11Gaps.l0] at h⟩
 | k + 1 => by
  obtain ⟨ih0, ih1⟩ := targumlaw7_Float11Gaps.mono_l k
  refine ⟨?_, ?_⟩
  ·intro y0 y1 y2 y3 y4
   unfold targumlaw7_Float11Gaps.j0
   repeat' first | (with_reducible exact ih0 _ _ _ _ _) | (with_reducible exact ih1 _ _ _ _ _ _ _) | (with_reducible exact float11_Is.mono _ _) | (with_reducible exact float11_Of.mono _ _) | (with_reducible exact targumlaw7_digits.mono _ _) | (with_reducible exact targumlaw7_known.mono _) | (with_reducible exact targumref4_Make.mono _ _ _ _ _) | (with_reducible exact LeO.refl _) | (with_reducible exact LeO.none _) | (with_reducible refine LeO.ite ?_ ?_) | (with_reducible refine LeO.bind ?_ (fun _ => ?_)) | exact ih0 _ _ _ _ _ | exact ih1 _ _ _ _ _ _ _ | exact float11_Is.mono _ _ | exact float11_Of.mono _ _ | exact targumlaw7_digits.mono _ _ | exact targumlaw7_known.mono _ | exact targumref4_Make.mono _ _ _ _ _ | exact LeO.none _ | refine LeO.ite ?_ ?_ | refine LeO.bind ?_ (fun _ => ?_)
  ·intro y0 y1 y2 y3 y4 y5 y6
   unfold targumlaw7_Float11Gaps.l0
   repeat' first | (with_reducible exact ih0 _ _ _ _ _) | (with_reducible exact ih1 _ _ _ _ _ _ _) | (with_reducible exact float11_Is.mono _ _) | (with_reducible exact float11_Of.mono _ _) | (with_reducible exact targumlaw7_digits.mono _ _) | (with_reducible exact targumlaw7_known.mono _) | (with_reducible exact targumref4_Make.mono _ _ _ _ _) | (with_reducible exact LeO.refl _) | (with_reducible exact LeO.none _) | (with_reducible refine LeO.ite ?_ ?_) | (with_reducible refine LeO.bind ?_ (fun _ => ?_)) | exact ih0 _ _ _ _ _ | exact ih1 _ _ _ _ _ _ _ | exact float11_Is.mono _ _ | exact float11_Of.mono _ _ | exact targumlaw7_digits.mono _ _ | exact targumlaw7_known.mono _ | exact targumref4_Make.mono _ _ _ _ _ | exact LeO.none _ | refine LeO.ite ?_ ?_ | refine LeO.bind ?_ (fun _ => ?_)
theorem targumlaw7_Float11Gaps.mono : ∀ a0 a1 a2 a3 k, LeO (targumlaw7_Float11Gaps.f k a0 a1 a2 a3) (targumlaw7_Float11Gaps.f (k + 1) a0 a1 a2 a3) := by
 intro a0 a1 a2 a3 k
 obtain ⟨ih0, ih1⟩ := targumlaw7_Float11Gaps.mono_l k
 unfold targumlaw7_Float11Gaps.f
 repeat' first | (with_reducible exact ih0 _ _ _ _ _) | (with_reducible exact ih1 _ _ _ _ _ _ _) | (with_reducible exact float11_Is.mono _ _) | (with_reducible exact float11_Of.mono _ _) | (with_reducible exact targumlaw7_digits.mono _ _) | (with_reducible exact targumlaw7_known.mono _) | (with_reducible exact targumref4_Make.mono _ _ _ _ _) | (with_reducible exact LeO.refl _) | (with_reducible exact LeO.none _) | (with_reducible refine LeO.ite ?_ ?_) | (with_reducible refine LeO.bind ?_ (fun _ => ?_)) | exact ih0 _ _ _ _ _ | exact ih1 _ _ _ _ _ _ _ | exact float11_Is.mono _ _ | exact float11_Of.mono _ _ | exact targumlaw7_digits.mono _ _ | exact targumlaw7_known.mono _ | exact targumref4_Make.mono _ _ _ _ _ | exact LeO.none _ | refine LeO.ite ?_ ?_ | refine LeO.bind ?_ (fun _ => ?_)
def targumlaw7_Float11Gaps.T13 : Bool × List (List Nat × List Nat) := (true, [([], []), ([], []), ([0, 1], [0, 1]), ([], []), ([2, 3], [2, 3]), ([], []), ([], []), ([5, 6], [5, 6]), ([4, 7], [4, 7]), ([8], [8]), ([9], [9]), ([10], [10]), ([10], [10]), ([], []), ([13, 11, 9, 0, 1, 2, 3, 4, 5, 6, 7, 8, 9, 10, 11, 13], [11, 13]), ([12, 14, 0, 1, 2, 3, 4, 5, 6, 7, 8, 9, 10, 11, 12, 13, 14], [12])])
def targumlaw7_Float11Gaps.B13 : List Nat := [0, 0, 3, 0, 15, 0, 0, 96, 255, 511, 1023, 2047, 2047, 0, 12287, 32767]
theorem targumlaw7_Float11Gaps.tab13 : rtab .any (opsOf Tryz.f6 13) = targumlaw7_Float11Gaps.T13 := by kernel_rfl
theorem targumlaw7_Float11Gaps.bits13 : waitsOk targumlaw7_Float11Gaps.T13.2 targumlaw7_Float11Gaps.B13 = true := by kernel_rfl
def targumlaw7_Float11Gaps.T14 : Bool × List (List Nat × List Nat) := (true, [([], []), ([], []), ([0, 1], [0, 1]), ([], []), ([2, 3], [2, 3]), ([], []), ([], []), ([5, 6], [5, 6]), ([4, 7], [4, 7]), ([8], [8]), ([9], [9]), ([10], [10]), ([11], [11]), ([11], [11]), ([], []), ([14, 12, 10, 0, 1, 2, 3, 4, 5, 6, 7, 8, 9, 10, 11, 12, 14], [12, 14]), ([13, 15, 0, 1, 2, 3, 4, 5, 6, 7, 8, 9, 10, 11, 12, 13, 14, 15], [13])])
def targumlaw7_Float11Gaps.B14 : List Nat := [0, 0, 3, 0, 15, 0, 0, 96, 255, 511, 1023, 2047, 4095, 4095, 0, 24575, 65535]
theorem targumlaw7_Float11Gaps.tab14 : rtab .any (opsOf Tryz.f6 14) = targumlaw7_Float11Gaps.T14 := by kernel_rfl
theorem targumlaw7_Float11Gaps.bits14 : waitsOk targumlaw7_Float11Gaps.T14.2 targumlaw7_Float11Gaps.B14 = true := by kernel_rfl
set_option maxHeartbeats 40000000 in
set_option maxRecDepth 100000 in
theorem targumlaw7_Float11Gaps.calls (k : Nat) (a0 : ByteArray) (a1 : ByteArray) (a2 : Int) (a3 : Int) (r : Bool) (w : World) (hG : Go.Proofs.YtkijneohhilboaaGreatDoor.PKT.Tabs w) (h : targumlaw7_Float11Gaps.f k a0 a1 a2 a3 = some r) :
  Calls Tryz.prog 6 #[.string a0, .string a1, .int .u8 a2, .int .u8 a3] w fun e w' => e = .returned (.bool r) ∧ Below w.heap.size w w' := by
 have hu26 := Tryz.underlying26
 have HG := AM hG
 clear hG
 have HB := AM (Below.refl w.heap.size w)
 have H : ((targumlaw7_known.f k).bind fun t324 => (if t324 = true then (if (a0.size : Int) < 1 then (targumlaw7_Float11Gaps.j0 k a0 a1 a2 a3 true) else (if (a0.size : Int) > 30 then (targumlaw7_Float11Gaps.j0 k a0 a1 a2 a3 true) else (targumlaw7_Float11Gaps.j0 k a0 a1 a2 a3 (decide ((a1.size : Int) > 30))))) else (some false))) = some r := h
 clear h
 replace H := Option.bind_eq_some_iff.mp H
 obtain ⟨t324, A50, H⟩ := H
 replace H : (if t324 = true then (if (a0.size : Int) < 1 then (targumlaw7_Float11Gaps.j0 k a0 a1 a2 a3 true) else (if (a0.size : Int) > 30 then (targumlaw7_Float11Gaps.j0 k a0 a1 a2 a3 true) else (targumlaw7_Float11Gaps.j0 k a0 a1 a2 a3 (decide ((a1.size : Int) > 30))))) else (some false)) = some r := H
 have A5 := AM A50
 clear A50
 by_cases c6 : t324 = true
 ·as_aux_lemma =>
  subst c6
  have H1 : (if (a0.size : Int) < 1 then (targumlaw7_Float11Gaps.j0 k a0 a1 a2 a3 true) else (if (a0.size : Int) > 30 then (targumlaw7_Float11Gaps.j0 k a0 a1 a2 a3 true) else (targumlaw7_Float11Gaps.j0 k a0 a1 a2 a3 (decide ((a1.size : Int) > 30))))) = some r := by rw [if_pos rfl] at H; exact H
  clear H
  have H := H1
  clear H1
  have HC7 := AM H
  clear H
  go_enter Tryz.func6, Tryz.ntmps6
  go_upto_region 3 with (first | ((with_reducible refine gate_callee (f := 7) rfl ?_); refine goesL_ (some 21) rfl rfl Tryz.func7 (by kernel_rfl) rfl #[] rfl am ?_; (with_reducible refine (targumlaw7_known.calls k  true _ ?side1 A5.out).mono ?_); (case side1 => exact Go.Proofs.YtkijneohhilboaaGreatDoor.PKT.Tabs_below HG.out bl); rintro e w8 ⟨rfl, hb⟩; refine ⟨_, rfl, ?_⟩; replace HB := AM (below_step bl hb); (try clear hb)))
  (try simp only [Act.put, qI, qz, qs])
  go_cut [35] (fun v35 wc => ∃ (kq : Nat) (x35_6 : Bool), v35 = .bool x35_6 ∧ Aside0 (targumlaw7_Float11Gaps.j0 kq a0 a1 a2 a3 x35_6 = some r) ∧ Aside0 (kq ≤ k) ∧ Aside0 (Below w.heap.size w wc))
  case first =>
   have H := HC7.out
   clear HC7
   by_cases c9 : (a0.size : Int) < 1
   ·rw [if_pos c9] at H
    have c9b0 : decide ((a0.size : Int) < 1) = true := decide_eq_true c9; have c9b1 : decide (a0.size < 1) = true := decide_eq_true (by omega); clear c9; (first | rw [c9b0] | (simp only [qi, qj]; rw [c9b0]) | skip); have H' := AM H; clear H; go_wp2; go_meet
    case rel => exact ⟨_, (true), rq, H', ⟨by first | omega | exact Nat.le_refl _⟩, ⟨bl⟩⟩
   ·rw [if_neg c9] at H
    have c9b0 : decide ((a0.size : Int) < 1) = false := decide_eq_false c9; have c9b1 : decide (a0.size < 1) = false := decide_eq_false (by omega); clear c9; (first | rw [c9b0] | (simp only [qi, qj]; rw [c9b0]) | skip); by_cases c10 : (a0.size : Int) > 30
    ·rw [if_pos c10] at H
     have c10b0 : decide (30 < (a0.size : Int)) = true := decide_eq_true c10; have c10b1 : decide (30 < a0.size) = true := decide_eq_true (by omega); clear c10; have H' := AM H; clear H; go_wp2; go_meet
     case rel => exact ⟨_, (true), rq, H', ⟨by first | omega | exact Nat.le_refl _⟩, ⟨bl⟩⟩
    ·rw [if_neg c10] at H
     have c10b0 : decide (30 < (a0.size : Int)) = false := decide_eq_false c10; have c10b1 : decide (30 < a0.size) = false := decide_eq_false (by omega); clear c10; have H' := AM H; clear H; go_wp2; go_meet
     case rel => exact ⟨_, (decide ((a1.size : Int) > 30)), rq, H', ⟨by first | omega | exact Nat.le_refl _⟩, ⟨bl⟩⟩
  case rest =>
   clear HC7
   try clear c6
   obtain ⟨kq, x35_6, rfl, HA, HJ6, HB⟩ := hcut
   cases kq with
   | zero => exact absurd HA.out (by simp [targumlaw7_Float11Gaps.j0])
   | succ kj6 =>
    have H := HA.out; clear HA; simp only [targumlaw7_Float11Gaps.j0] at H; by_cases c11 : x35_6 = true
    ·subst c11
     have H1 : (some true) = some r := by rw [if_pos rfl] at H; exact H
     clear H; have H := H1; clear H1; obtain rfl := Option.some.inj H; go_wp2; go_ret
     exact ⟨by first | rfl | (simp [errW_none, errW_some] <;> rfl) | (simp [*, errW_none, errW_some] <;> rfl) | ((generalize ByteArray.toList _ = z_); cases z_ <;> first | rfl | (simp; done)), bl⟩
    ·as_aux_lemma =>
     replace c11 := Bool.eq_false_iff.mpr c11; subst c11; have H1 : ((targumlaw7_digits.f kj6 a0).bind fun t325 => (if t325.size + 1 ≤ 9223372036854775807 then ((targumlaw7_digits.f kj6 a1).bind fun t326 => (if (t325 ++ (⟨#[46]⟩ : ByteArray)).size + t326.size ≤ 9223372036854775807 then (if (((t325 ++ (⟨#[46]⟩ : ByteArray)) ++ t326).size : Int) = 0 then (none) else (targumlaw7_Float11Gaps.l0 kj6 a0 a1 a3 ((t325 ++ (⟨#[46]⟩ : ByteArray)) ++ t326) (wrap64 (1 + (Int.tmod (wrap64 (a2)) (((t325 ++ (⟨#[46]⟩ : ByteArray)) ++ t326).size : Int)))) (⟨#[]⟩ : ByteArray) 0)) else (none))) else (none))) = some r := by rw [if_neg (show ¬ (false = true) by decide)] at H; exact H
     clear H; have H := H1; clear H1; replace H := Option.bind_eq_some_iff.mp H; obtain ⟨t325, A120, H⟩ := H; replace H : (if t325.size + 1 ≤ 9223372036854775807 then ((targumlaw7_digits.f kj6 a1).bind fun t326 => (if (t325 ++ (⟨#[46]⟩ : ByteArray)).size + t326.size ≤ 9223372036854775807 then (if (((t325 ++ (⟨#[46]⟩ : ByteArray)) ++ t326).size : Int) = 0 then (none) else (targumlaw7_Float11Gaps.l0 kj6 a0 a1 a3 ((t325 ++ (⟨#[46]⟩ : ByteArray)) ++ t326) (wrap64 (1 + (Int.tmod (wrap64 (a2)) (((t325 ++ (⟨#[46]⟩ : ByteArray)) ++ t326).size : Int)))) (⟨#[]⟩ : ByteArray) 0)) else (none))) else (none)) = some r := H; have A12 := AM A120; clear A120; by_cases c13 : t325.size + 1 ≤ 9223372036854775807
     ·as_aux_lemma =>
      rw [if_pos c13] at H; have c13b0 := eq_true c13; have c13b1 : decide (t325.size + 1 ≤ 9223372036854775807) = true := decide_eq_true c13; try have c13b2 : (9223372036854775807 < t325.size + 1) = False := eq_false (Nat.not_lt.2 c13)
      replace H := Option.bind_eq_some_iff.mp H; obtain ⟨t326, A140, H⟩ := H; replace H : (if (t325 ++ (⟨#[46]⟩ : ByteArray)).size + t326.size ≤ 9223372036854775807 then (if (((t325 ++ (⟨#[46]⟩ : ByteArray)) ++ t326).size : Int) = 0 then (none) else (targumlaw7_Float11Gaps.l0 kj6 a0 a1 a3 ((t325 ++ (⟨#[46]⟩ : ByteArray)) ++ t326) (wrap64 (1 + (Int.tmod (wrap64 (a2)) (((t325 ++ (⟨#[46]⟩ : ByteArray)) ++ t326).size : Int)))) (⟨#[]⟩ : ByteArray) 0)) else (none)) = some r := H; have A14 := AM A140; clear A140; by_cases c15 : (t325 ++ (⟨#[46]⟩ : ByteArray)).size + t326.size ≤ 9223372036854775807
      ·as_aux_lemma =>
       rw [if_pos c15] at H; have c15b0 := eq_true c15; have c15b1 : decide ((t325 ++ (⟨#[46]⟩ : ByteArray)).size + t326.size ≤ 9223372036854775807) = true := decide_eq_true c15; try have c15b2 : (9223372036854775807 < (t325 ++ (⟨#[46]⟩ : ByteArray)).size + t326.size) = False := eq_false (Nat.not_lt.2 c15)
       try have c15b3 : (9223372036854775807 < t325.size + 1 + t326.size) = False := eq_false (Nat.not_lt.2 (by have z_ := c15; simp only [ByteArray.size_append, ByteArray.size_extract, Nat.min_self] at z_; exact z_))
       by_cases c16 : (((t325 ++ (⟨#[46]⟩ : ByteArray)) ++ t326).size : Int) = 0
       ·rw [if_pos c16] at H
        exact absurd H (by simp)
       ·as_aux_lemma =>
        rw [if_neg c16] at H; have c16b0 : ((((t325 ++ (⟨#[46]⟩ : ByteArray)) ++ t326).size : Int) == 0) = false := beq_eq_false_iff_ne.mpr c16; have c16b1 : ((((t325 ++ (⟨#[46]⟩ : ByteArray)) ++ t326).size : Int) != 0) = true := bne_iff_ne.mpr c16; have H' := AM H; clear H; go_wp2_with (first | ((with_reducible refine gate_callee (f := 12) rfl ?_); refine goesL_ (some 37) rfl rfl Tryz.func12 (by kernel_rfl) rfl #[.string a0] rfl am ?_; (with_reducible refine (targumlaw7_digits.calls kj6 a0 t325 _ A12.out).mono ?_); rintro e w17 ⟨rfl, hb⟩; refine ⟨_, rfl, ?_⟩; replace HB := AM (below_step bl hb); (try clear hb)) | ((with_reducible refine gate_callee (f := 12) rfl ?_); refine goesL_ (some 40) rfl rfl Tryz.func12 (by kernel_rfl) rfl #[.string a1] rfl am ?_; (with_reducible refine (targumlaw7_digits.calls kj6 a1 t326 _ A14.out).mono ?_); rintro e w18 ⟨rfl, hb⟩; refine ⟨_, rfl, ?_⟩; replace HB := AM (below_step bl hb); (try clear hb))); obtain ⟨js1, hjs1⟩ : ∃ s_ : ByteArray, ((t325 ++ (⟨#[46]⟩ : ByteArray)) ++ t326) = s_ := ⟨_, rfl⟩; have hjs1z : ((t325.size : Int) + 1 + (t326.size : Int)) = (js1.size : Int) := by rw [← hjs1]; simp only [ByteArray.size_append, Int.natCast_add]; rfl
        rw [hjs1] at H'; simp only [hjs1, hjs1z]; clear hjs1z hjs1; go_loopg [11, 12] kj6 (fun kq v11 v12 w' => ∃ (x11_2 : ByteArray) (x12_2 : Int), v11 = .string x11_2 ∧ v12 = .int .i64 x12_2 ∧ Aside0 (targumlaw7_Float11Gaps.l0 kq a0 a1 a3 js1 (wrap64 (1 + (Int.tmod (wrap64 (a2)) (js1.size : Int)))) x11_2 x12_2 = some r) ∧ Aside0 (kq ≤ kj6) ∧ Aside0 (Below w.heap.size w w'))
        case atStart => exact ⟨((⟨#[]⟩ : ByteArray)), (0), rq, rq, H', ⟨Nat.le_refl _⟩, ⟨bl⟩⟩
        case round =>
         clear H'; try clear c6; try clear c11; try clear c13; try clear c13b0; try clear c13b1; try clear c13b2; try clear c15; try clear c15b0; try clear c15b1; try clear c15b2; try clear c16; try clear c16b0; try clear c16b1
         obtain ⟨x11_2, x12_2, rfl, rfl, HA, HK2, HB⟩ := hrel; cases gk with
         | zero => exact absurd HA.out (by simp [targumlaw7_Float11Gaps.l0])
         | succ k2 =>
          have H := HA.out; clear HA; simp only [targumlaw7_Float11Gaps.l0] at H; by_cases c19 : x12_2 < (wrap64 (Int.tmod a3 5))
          ·rw [if_pos c19] at H
           have c19b0 : decide (x12_2 < (wrap64 (Int.tmod a3 5))) = true := decide_eq_true c19; clear c19; by_cases c20 : x11_2.size + 1 ≤ 9223372036854775807
           ·rw [if_pos c20] at H
            have c20b0 := eq_true c20; have c20b1 : decide (x11_2.size + 1 ≤ 9223372036854775807) = true := decide_eq_true c20; try have c20b2 : (9223372036854775807 < x11_2.size + 1) = False := eq_false (Nat.not_lt.2 c20)
            have H' := AM H; clear H; go_wp2; go_roundg k2
            case measure => have := HJ6.out; have := HK2.out; omega
            case rel => exact ⟨(x11_2 ++ (⟨#[95]⟩ : ByteArray)), (wrap64 (x12_2 + 1)), rq, rq, H', ⟨by have := HJ6.out; have := HK2.out; omega⟩, ⟨bl⟩⟩
           ·rw [if_neg c20] at H
            exact absurd H (by simp)
          ·as_aux_lemma =>
           rw [if_neg c19] at H; have c19b0 : decide (x12_2 < (wrap64 (Int.tmod a3 5))) = false := decide_eq_false c19; clear c19; replace H := Option.bind_eq_some_iff.mp H; obtain ⟨⟨t327, t328, t329, t330, t331⟩, A210, H⟩ := H
           replace H : (if 0 ≤ (wrap64 (1 + (Int.tmod (wrap64 (a2)) (js1.size : Int)))) then (if (wrap64 (1 + (Int.tmod (wrap64 (a2)) (js1.size : Int)))) ≤ (js1.size : Int) then (if (js1.extract 0 ((wrap64 (1 + (Int.tmod (wrap64 (a2)) (js1.size : Int)))) : Int).toNat).size + x11_2.size ≤ 9223372036854775807 then (if ((js1.extract 0 ((wrap64 (1 + (Int.tmod (wrap64 (a2)) (js1.size : Int)))) : Int).toNat) ++ x11_2).size + (js1.extract ((wrap64 (1 + (Int.tmod (wrap64 (a2)) (js1.size : Int)))) : Int).toNat js1.size).size ≤ 9223372036854775807 then ((float11_Of.f k2 (((js1.extract 0 ((wrap64 (1 + (Int.tmod (wrap64 (a2)) (js1.size : Int)))) : Int).toNat) ++ x11_2) ++ (js1.extract ((wrap64 (1 + (Int.tmod (wrap64 (a2)) (js1.size : Int)))) : Int).toNat js1.size))).bind fun bt333 => (if (((js1.extract 0 ((wrap64 (1 + (Int.tmod (wrap64 (a2)) (js1.size : Int)))) : Int).toNat) ++ x11_2) ++ (js1.extract ((wrap64 (1 + (Int.tmod (wrap64 (a2)) (js1.size : Int)))) : Int).toNat js1.size)).size + 3 ≤ 9223372036854775807 then ((float11_Of.f k2 ((((js1.extract 0 ((wrap64 (1 + (Int.tmod (wrap64 (a2)) (js1.size : Int)))) : Int).toNat) ++ x11_2) ++ (js1.extract ((wrap64 (1 + (Int.tmod (wrap64 (a2)) (js1.size : Int)))) : Int).toNat js1.size)) ++ (⟨#[101, 45, 55]⟩ : ByteArray))).bind fun bt339 => ((targumlaw7_digits.f k2 a0).bind fun t345 => ((targumlaw7_digits.f k2 a1).bind fun t346 => ((targumref4_Make.f k2 false t345 t346 (⟨#[45, 55]⟩ : ByteArray)).bind fun bt347 => (if t331 = true then (if bt333.2.2.2.2 = true then (if bt339.2.2.2.2 = true then (if (t327 == bt333.1 && (t328 == bt333.2.1 && (t329.toList == bt333.2.2.1.toList && (t330.toList == bt333.2.2.2.1.toList)))) = true then (if (bt339.1 == bt347.1 && (bt339.2.1 == bt347.2.1 && (bt339.2.2.1.toList == bt347.2.2.1.toList && (bt339.2.2.2.1.toList == bt347.2.2.2.1.toList)))) = true then (if x11_2.toList = ([] : List UInt8) then (if js1.size + 2 ≤ 9223372036854775807 then (if (js1 ++ (⟨#[101, 45]⟩ : ByteArray)).size + x11_2.size ≤ 9223372036854775807 then (if ((js1 ++ (⟨#[101, 45]⟩ : ByteArray)) ++ x11_2).size + 1 ≤ 9223372036854775807 then ((float11_Is.f k2 (((js1 ++ (⟨#[101, 45]⟩ : ByteArray)) ++ x11_2) ++ (⟨#[95]⟩ : ByteArray))).bind fun t353 => (some (!t353))) else (none)) else (none)) else (none)) else (if x11_2.size + js1.size ≤ 9223372036854775807 then ((float11_Is.f k2 (x11_2 ++ js1)).bind fun t354 => (if t354 = true then (some false) else (if js1.size + 2 ≤ 9223372036854775807 then (if (js1 ++ (⟨#[101, 45]⟩ : ByteArray)).size + x11_2.size ≤ 9223372036854775807 then (if ((js1 ++ (⟨#[101, 45]⟩ : ByteArray)) ++ x11_2).size + 1 ≤ 9223372036854775807 then ((float11_Is.f k2 (((js1 ++ (⟨#[101, 45]⟩ : ByteArray)) ++ x11_2) ++ (⟨#[95]⟩ : ByteArray))).bind fun t355 => (some (!t355))) else (none)) else (none)) else (none)))) else (none))) else (some false)) else (some false)) else (some false)) else (some false)) else (some false)))))) else (none))) else (none)) else (none)) else (none)) else (none)) = some r := H
           have A21 := AM A210; clear A210; obtain ⟨ji22, hji22⟩ : ∃ j_ : Int, (wrap64 (1 + (Int.tmod (wrap64 (a2)) (js1.size : Int)))) = j_ := ⟨_, rfl⟩; replace H : (if 0 ≤ (ji22) then (if (ji22) ≤ (js1.size : Int) then (if (js1.extract 0 ((ji22) : Int).toNat).size + x11_2.size ≤ 9223372036854775807 then (if ((js1.extract 0 ((ji22) : Int).toNat) ++ x11_2).size + (js1.extract ((ji22) : Int).toNat js1.size).size ≤ 9223372036854775807 then ((float11_Of.f k2 (((js1.extract 0 ((ji22) : Int).toNat) ++ x11_2) ++ (js1.extract ((ji22) : Int).toNat js1.size))).bind fun bt333 => (if (((js1.extract 0 ((ji22) : Int).toNat) ++ x11_2) ++ (js1.extract ((ji22) : Int).toNat js1.size)).size + 3 ≤ 9223372036854775807 then ((float11_Of.f k2 ((((js1.extract 0 ((ji22) : Int).toNat) ++ x11_2) ++ (js1.extract ((ji22) : Int).toNat js1.size)) ++ (⟨#[101, 45, 55]⟩ : ByteArray))).bind fun bt339 => ((targumlaw7_digits.f k2 a0).bind fun t345 => ((targumlaw7_digits.f k2 a1).bind fun t346 => ((targumref4_Make.f k2 false t345 t346 (⟨#[45, 55]⟩ : ByteArray)).bind fun bt347 => (if t331 = true then (if bt333.2.2.2.2 = true then (if bt339.2.2.2.2 = true then (if (t327 == bt333.1 && (t328 == bt333.2.1 && (t329.toList == bt333.2.2.1.toList && (t330.toList == bt333.2.2.2.1.toList)))) = true then (if (bt339.1 == bt347.1 && (bt339.2.1 == bt347.2.1 && (bt339.2.2.1.toList == bt347.2.2.1.toList && (bt339.2.2.2.1.toList == bt347.2.2.2.1.toList)))) = true then (if x11_2.toList = ([] : List UInt8) then (if js1.size + 2 ≤ 9223372036854775807 then (if (js1 ++ (⟨#[101, 45]⟩ : ByteArray)).size + x11_2.size ≤ 9223372036854775807 then (if ((js1 ++ (⟨#[101, 45]⟩ : ByteArray)) ++ x11_2).size + 1 ≤ 9223372036854775807 then ((float11_Is.f k2 (((js1 ++ (⟨#[101, 45]⟩ : ByteArray)) ++ x11_2) ++ (⟨#[95]⟩ : ByteArray))).bind fun t353 => (some (!t353))) else (none)) else (none)) else (none)) else (if x11_2.size + js1.size ≤ 9223372036854775807 then ((float11_Is.f k2 (x11_2 ++ js1)).bind fun t354 => (if t354 = true then (some false) else (if js1.size + 2 ≤ 9223372036854775807 then (if (js1 ++ (⟨#[101, 45]⟩ : ByteArray)).size + x11_2.size ≤ 9223372036854775807 then (if ((js1 ++ (⟨#[101, 45]⟩ : ByteArray)) ++ x11_2).size + 1 ≤ 9223372036854775807 then ((float11_Is.f k2 (((js1 ++ (⟨#[101, 45]⟩ : ByteArray)) ++ x11_2) ++ (⟨#[95]⟩ : ByteArray))).bind fun t355 => (some (!t355))) else (none)) else (none)) else (none)))) else (none))) else (some false)) else (some false)) else (some false)) else (some false)) else (some false)))))) else (none))) else (none)) else (none)) else (none)) else (none)) = some r := by first | (rw [hji22] at H; exact H) | (simp only [hji22] at H ⊢; exact H)
           (try rw [hji22] at A21); have hji22w : (IntKind.i64.wrap (1 + (Int.tmod (wrap64 (a2)) (js1.size : Int)))) = ji22 := (qi _).trans hji22; by_cases c23 : 0 ≤ (ji22)
           ·as_aux_lemma =>
            rw [if_pos c23] at H; have c23b0 := eq_true c23; have c23b1 : decide (0 ≤ (ji22)) = true := decide_eq_true c23; clear c23; by_cases c24 : (ji22) ≤ (js1.size : Int)
            ·as_aux_lemma =>
             rw [if_pos c24] at H; have c24b0 := eq_true c24; have c24b1 : decide ((ji22) ≤ (js1.size : Int)) = true := decide_eq_true c24; by_cases c25 : (js1.extract 0 ((ji22) : Int).toNat).size + x11_2.size ≤ 9223372036854775807
             ·as_aux_lemma =>
              rw [if_pos c25] at H; have c25b0 := eq_true c25; have c25b1 : decide ((js1.extract 0 ((ji22) : Int).toNat).size + x11_2.size ≤ 9223372036854775807) = true := decide_eq_true c25; try have c25b2 : (9223372036854775807 < (js1.extract 0 ((ji22) : Int).toNat).size + x11_2.size) = False := eq_false (Nat.not_lt.2 c25)
              try have c25b7 : (9223372036854775807 < ((ji22) : Int).toNat + x11_2.size) = False := eq_false (Nat.not_lt.2 (by have z_ := c25; have h0_ := of_decide_eq_true c23b1; have h1_ := of_decide_eq_true c24b1; simp only [ByteArray.size_append, ByteArray.size_extract, Nat.min_self] at z_; omega))
              try have c25b3 : (9223372036854775807 < js1.extract 0 ((ji22) : Int).toNat.size + x11_2.size) = False := eq_false (Nat.not_lt.2 (by have z_ := c25; simp only [ByteArray.size_append, ByteArray.size_extract, Nat.min_self] at z_; exact z_))
              have c26b0 := eq_true (od : 0 ≤ (ji22)); have c27b0 := eq_true (od : (ji22) ≤ (js1.size : Int)); by_cases c28 : ((js1.extract 0 ((ji22) : Int).toNat) ++ x11_2).size + (js1.extract ((ji22) : Int).toNat js1.size).size ≤ 9223372036854775807
              ·as_aux_lemma =>
               rw [if_pos c28] at H; have c28b0 := eq_true c28; have c28b1 : decide (((js1.extract 0 ((ji22) : Int).toNat) ++ x11_2).size + (js1.extract ((ji22) : Int).toNat js1.size).size ≤ 9223372036854775807) = true := decide_eq_true c28; try have c28b2 : (9223372036854775807 < ((js1.extract 0 ((ji22) : Int).toNat) ++ x11_2).size + (js1.extract ((ji22) : Int).toNat js1.size).size) = False := eq_false (Nat.not_lt.2 c28)
               try have c28b7 : (9223372036854775807 < ((ji22) : Int).toNat + x11_2.size + (js1.size - ((ji22) : Int).toNat)) = False := eq_false (Nat.not_lt.2 (by have z_ := c28; have h0_ := of_decide_eq_true c23b1; have h1_ := of_decide_eq_true c24b1; simp only [ByteArray.size_append, ByteArray.size_extract, Nat.min_self] at z_; omega))
               try have c28b3 : (9223372036854775807 < js1.extract 0 ((ji22) : Int).toNat.size + x11_2.size + (js1.extract ((ji22) : Int).toNat js1.size.size)) = False := eq_false (Nat.not_lt.2 (by have z_ := c28; simp only [ByteArray.size_append, ByteArray.size_extract, Nat.min_self] at z_; exact z_))
               replace H := Option.bind_eq_some_iff.mp H; obtain ⟨⟨t333, t334, t335, t336, t337⟩, A290, H⟩ := H; replace H : (if (((js1.extract 0 ((ji22) : Int).toNat) ++ x11_2) ++ (js1.extract ((ji22) : Int).toNat js1.size)).size + 3 ≤ 9223372036854775807 then ((float11_Of.f k2 ((((js1.extract 0 ((ji22) : Int).toNat) ++ x11_2) ++ (js1.extract ((ji22) : Int).toNat js1.size)) ++ (⟨#[101, 45, 55]⟩ : ByteArray))).bind fun bt339 => ((targumlaw7_digits.f k2 a0).bind fun t345 => ((targumlaw7_digits.f k2 a1).bind fun t346 => ((targumref4_Make.f k2 false t345 t346 (⟨#[45, 55]⟩ : ByteArray)).bind fun bt347 => (if t331 = true then (if t337 = true then (if bt339.2.2.2.2 = true then (if (t327 == t333 && (t328 == t334 && (t329.toList == t335.toList && (t330.toList == t336.toList)))) = true then (if (bt339.1 == bt347.1 && (bt339.2.1 == bt347.2.1 && (bt339.2.2.1.toList == bt347.2.2.1.toList && (bt339.2.2.2.1.toList == bt347.2.2.2.1.toList)))) = true then (if x11_2.toList = ([] : List UInt8) then (if js1.size + 2 ≤ 9223372036854775807 then (if (js1 ++ (⟨#[101, 45]⟩ : ByteArray)).size + x11_2.size ≤ 9223372036854775807 then (if ((js1 ++ (⟨#[101, 45]⟩ : ByteArray)) ++ x11_2).size + 1 ≤ 9223372036854775807 then ((float11_Is.f k2 (((js1 ++ (⟨#[101, 45]⟩ : ByteArray)) ++ x11_2) ++ (⟨#[95]⟩ : ByteArray))).bind fun t353 => (some (!t353))) else (none)) else (none)) else (none)) else (if x11_2.size + js1.size ≤ 9223372036854775807 then ((float11_Is.f k2 (x11_2 ++ js1)).bind fun t354 => (if t354 = true then (some false) else (if js1.size + 2 ≤ 9223372036854775807 then (if (js1 ++ (⟨#[101, 45]⟩ : ByteArray)).size + x11_2.size ≤ 9223372036854775807 then (if ((js1 ++ (⟨#[101, 45]⟩ : ByteArray)) ++ x11_2).size + 1 ≤ 9223372036854775807 then ((float11_Is.f k2 (((js1 ++ (⟨#[101, 45]⟩ : ByteArray)) ++ x11_2) ++ (⟨#[95]⟩ : ByteArray))).bind fun t355 => (some (!t355))) else (none)) else (none)) else (none)))) else (none))) else (some false)) else (some false)) else (some false)) else (some false)) else (some false)))))) else (none)) = some r := H; have A29 := AM A290; clear A290; have c30b0 := eq_true (od : 0 ≤ (ji22)); have c31b0 := eq_true (od : (ji22) ≤ (js1.size : Int)); have c32b0 := eq_true (od : 0 ≤ (ji22)); have c33b0 := eq_true (od : (ji22) ≤ (js1.size : Int)); by_cases c34 : (((js1.extract 0 ((ji22) : Int).toNat) ++ x11_2) ++ (js1.extract ((ji22) : Int).toNat js1.size)).size + 3 ≤ 9223372036854775807
               ·as_aux_lemma =>
                rw [if_pos c34] at H; have c34b0 := eq_true c34; have c34b1 : decide ((((js1.extract 0 ((ji22) : Int).toNat) ++ x11_2) ++ (js1.extract ((ji22) : Int).toNat js1.size)).size + 3 ≤ 9223372036854775807) = true := decide_eq_true c34; try have c34b2 : (9223372036854775807 < (((js1.extract 0 ((ji22) : Int).toNat) ++ x11_2) ++ (js1.extract ((ji22) : Int).toNat js1.size)).size + 3) = False := eq_false (Nat.not_lt.2 c34)
                try have c34b7 : (9223372036854775807 < ((ji22) : Int).toNat + x11_2.size + (js1.size - ((ji22) : Int).toNat) + 3) = False := eq_false (Nat.not_lt.2 (by have z_ := c34; have h0_ := of_decide_eq_true c23b1; have h1_ := of_decide_eq_true c24b1; simp only [ByteArray.size_append, ByteArray.size_extract, Nat.min_self] at z_; omega))
                try have c34b3 : (9223372036854775807 < js1.extract 0 ((ji22) : Int).toNat.size + x11_2.size + (js1.extract ((ji22) : Int).toNat js1.size.size) + 3) = False := eq_false (Nat.not_lt.2 (by have z_ := c34; simp only [ByteArray.size_append, ByteArray.size_extract, Nat.min_self] at z_; exact z_))
                replace H := Option.bind_eq_some_iff.mp H; obtain ⟨⟨t339, t340, t341, t342, t343⟩, A350, H⟩ := H; replace H : ((targumlaw7_digits.f k2 a0).bind fun t345 => ((targumlaw7_digits.f k2 a1).bind fun t346 => ((targumref4_Make.f k2 false t345 t346 (⟨#[45, 55]⟩ : ByteArray)).bind fun bt347 => (if t331 = true then (if t337 = true then (if t343 = true then (if (t327 == t333 && (t328 == t334 && (t329.toList == t335.toList && (t330.toList == t336.toList)))) = true then (if (t339 == bt347.1 && (t340 == bt347.2.1 && (t341.toList == bt347.2.2.1.toList && (t342.toList == bt347.2.2.2.1.toList)))) = true then (if x11_2.toList = ([] : List UInt8) then (if js1.size + 2 ≤ 9223372036854775807 then (if (js1 ++ (⟨#[101, 45]⟩ : ByteArray)).size + x11_2.size ≤ 9223372036854775807 then (if ((js1 ++ (⟨#[101, 45]⟩ : ByteArray)) ++ x11_2).size + 1 ≤ 9223372036854775807 then ((float11_Is.f k2 (((js1 ++ (⟨#[101, 45]⟩ : ByteArray)) ++ x11_2) ++ (⟨#[95]⟩ : ByteArray))).bind fun t353 => (some (!t353))) else (none)) else (none)) else (none)) else (if x11_2.size + js1.size ≤ 9223372036854775807 then ((float11_Is.f k2 (x11_2 ++ js1)).bind fun t354 => (if t354 = true then (some false) else (if js1.size + 2 ≤ 9223372036854775807 then (if (js1 ++ (⟨#[101, 45]⟩ : ByteArray)).size + x11_2.size ≤ 9223372036854775807 then (if ((js1 ++ (⟨#[101, 45]⟩ : ByteArray)) ++ x11_2).size + 1 ≤ 9223372036854775807 then ((float11_Is.f k2 (((js1 ++ (⟨#[101, 45]⟩ : ByteArray)) ++ x11_2) ++ (⟨#[95]⟩ : ByteArray))).bind fun t355 => (some (!t355))) else (none)) else (none)) else (none)))) else (none))) else (some false)) else (some false)) else (some false)) else (some false)) else (some false))))) = some r := H; have A35 := AM A350; clear A350; replace H := Option.bind_eq_some_iff.mp H; obtain ⟨t345, A360, H⟩ := H
                replace H : ((targumlaw7_digits.f k2 a1).bind fun t346 => ((targumref4_Make.f k2 false t345 t346 (⟨#[45, 55]⟩ : ByteArray)).bind fun bt347 => (if t331 = true then (if t337 = true then (if t343 = true then (if (t327 == t333 && (t328 == t334 && (t329.toList == t335.toList && (t330.toList == t336.toList)))) = true then (if (t339 == bt347.1 && (t340 == bt347.2.1 && (t341.toList == bt347.2.2.1.toList && (t342.toList == bt347.2.2.2.1.toList)))) = true then (if x11_2.toList = ([] : List UInt8) then (if js1.size + 2 ≤ 9223372036854775807 then (if (js1 ++ (⟨#[101, 45]⟩ : ByteArray)).size + x11_2.size ≤ 9223372036854775807 then (if ((js1 ++ (⟨#[101, 45]⟩ : ByteArray)) ++ x11_2).size + 1 ≤ 9223372036854775807 then ((float11_Is.f k2 (((js1 ++ (⟨#[101, 45]⟩ : ByteArray)) ++ x11_2) ++ (⟨#[95]⟩ : ByteArray))).bind fun t353 => (some (!t353))) else (none)) else (none)) else (none)) else (if x11_2.size + js1.size ≤ 9223372036854775807 then ((float11_Is.f k2 (x11_2 ++ js1)).bind fun t354 => (if t354 = true then (some false) else (if js1.size + 2 ≤ 9223372036854775807 then (if (js1 ++ (⟨#[101, 45]⟩ : ByteArray)).size + x11_2.size ≤ 9223372036854775807 then (if ((js1 ++ (⟨#[101, 45]⟩ : ByteArray)) ++ x11_2).size + 1 ≤ 9223372036854775807 then ((float11_Is.f k2 (((js1 ++ (⟨#[101, 45]⟩ : ByteArray)) ++ x11_2) ++ (⟨#[95]⟩ : ByteArray))).bind fun t355 => (some (!t355))) else (none)) else (none)) else (none)))) else (none))) else (some false)) else (some false)) else (some false)) else (some false)) else (some false)))) = some r := H; have A36 := AM A360; clear A360; replace H := Option.bind_eq_some_iff.mp H; obtain ⟨t346, A370, H⟩ := H
                replace H : ((targumref4_Make.f k2 false t345 t346 (⟨#[45, 55]⟩ : ByteArray)).bind fun bt347 => (if t331 = true then (if t337 = true then (if t343 = true then (if (t327 == t333 && (t328 == t334 && (t329.toList == t335.toList && (t330.toList == t336.toList)))) = true then (if (t339 == bt347.1 && (t340 == bt347.2.1 && (t341.toList == bt347.2.2.1.toList && (t342.toList == bt347.2.2.2.1.toList)))) = true then (if x11_2.toList = ([] : List UInt8) then (if js1.size + 2 ≤ 9223372036854775807 then (if (js1 ++ (⟨#[101, 45]⟩ : ByteArray)).size + x11_2.size ≤ 9223372036854775807 then (if ((js1 ++ (⟨#[101, 45]⟩ : ByteArray)) ++ x11_2).size + 1 ≤ 9223372036854775807 then ((float11_Is.f k2 (((js1 ++ (⟨#[101, 45]⟩ : ByteArray)) ++ x11_2) ++ (⟨#[95]⟩ : ByteArray))).bind fun t353 => (some (!t353))) else (none)) else (none)) else (none)) else (if x11_2.size + js1.size ≤ 9223372036854775807 then ((float11_Is.f k2 (x11_2 ++ js1)).bind fun t354 => (if t354 = true then (some false) else (if js1.size + 2 ≤ 9223372036854775807 then (if (js1 ++ (⟨#[101, 45]⟩ : ByteArray)).size + x11_2.size ≤ 9223372036854775807 then (if ((js1 ++ (⟨#[101, 45]⟩ : ByteArray)) ++ x11_2).size + 1 ≤ 9223372036854775807 then ((float11_Is.f k2 (((js1 ++ (⟨#[101, 45]⟩ : ByteArray)) ++ x11_2) ++ (⟨#[95]⟩ : ByteArray))).bind fun t355 => (some (!t355))) else (none)) else (none)) else (none)))) else (none))) else (some false)) else (some false)) else (some false)) else (some false)) else (some false))) = some r := H; have A37 := AM A370; clear A370; replace H := Option.bind_eq_some_iff.mp H; obtain ⟨⟨t347, t348, t349, t350, t351⟩, A380, H⟩ := H
                replace H : (if t331 = true then (if t337 = true then (if t343 = true then (if (t327 == t333 && (t328 == t334 && (t329.toList == t335.toList && (t330.toList == t336.toList)))) = true then (if (t339 == t347 && (t340 == t348 && (t341.toList == t349.toList && (t342.toList == t350.toList)))) = true then (if x11_2.toList = ([] : List UInt8) then (if js1.size + 2 ≤ 9223372036854775807 then (if (js1 ++ (⟨#[101, 45]⟩ : ByteArray)).size + x11_2.size ≤ 9223372036854775807 then (if ((js1 ++ (⟨#[101, 45]⟩ : ByteArray)) ++ x11_2).size + 1 ≤ 9223372036854775807 then ((float11_Is.f k2 (((js1 ++ (⟨#[101, 45]⟩ : ByteArray)) ++ x11_2) ++ (⟨#[95]⟩ : ByteArray))).bind fun t353 => (some (!t353))) else (none)) else (none)) else (none)) else (if x11_2.size + js1.size ≤ 9223372036854775807 then ((float11_Is.f k2 (x11_2 ++ js1)).bind fun t354 => (if t354 = true then (some false) else (if js1.size + 2 ≤ 9223372036854775807 then (if (js1 ++ (⟨#[101, 45]⟩ : ByteArray)).size + x11_2.size ≤ 9223372036854775807 then (if ((js1 ++ (⟨#[101, 45]⟩ : ByteArray)) ++ x11_2).size + 1 ≤ 9223372036854775807 then ((float11_Is.f k2 (((js1 ++ (⟨#[101, 45]⟩ : ByteArray)) ++ x11_2) ++ (⟨#[95]⟩ : ByteArray))).bind fun t355 => (some (!t355))) else (none)) else (none)) else (none)))) else (none))) else (some false)) else (some false)) else (some false)) else (some false)) else (some false)) = some r := H; have A38 := AM A380; clear A380
                try go_wp2_with (first | ((with_reducible refine gate_callee (f := 8) rfl ?_); refine goesL_ (some 59) rfl rfl Tryz.func8 (by kernel_rfl) rfl #[.string js1] rfl am ?_; (with_reducible refine (float11_Of.calls _ _ _ _ _ _ _ _ ?side1 A21.out).mono ?_); (case side1 => exact Go.Proofs.YtkijneohhilboaaGreatDoor.PKT.Tabs_below HG.out bl); rintro e w49 ⟨rfl, hb⟩; refine ⟨_, rfl, ?_⟩; replace HB := AM (below_step bl hb); (try clear hb)) | ((with_reducible refine gate_dst (N := 13) rfl ?_); (try (refine gate_guard (by rfl) ?_; dsimp only)); refine box_event ?hg (N := 13) ?hd (cs := #[.int .i64 0, .bool false, .string (⟨#[]⟩ : ByteArray), .string (⟨#[]⟩ : ByteArray)]) (t := 26) ?hr ?_; (case hd => rfl); (case hg => rfl); (case hr => first | (go_simp; done) | (go_simp; rfl)); intro gb332 hg w50 hbox hb; have GW332 := gq (w := w) hg; have GE332 := GW332; replace HB := AM (below_step bl hb); have BK332 := AM (hbox); clear hb hbox hg; obtain ⟨hcz51_0, hcz51_1, hcz51_2, hcz51_3, hfz51_0, hfz51_1, hfz51_2, hfz51_3⟩ := cz4 BK332.out))
                have n0_ : Aside0 (((((w50.setCell ⟨gb332, 0, none⟩ (.int .i64 t327)).setCell ⟨gb332, 1, none⟩ (.bool t328)).setCell ⟨gb332, 2, none⟩ (.string t329)).setCell ⟨gb332, 3, none⟩ (.string t330)).heap[gb332]? = some (.cells #[.int .i64 t327, .bool t328, .string t329, .string t330] 26 (0, 0))) := ⟨by (with_reducible repeat (first | refine vN ?_ _ | refine vD ?_ | refine vA ?_ _)); refine blk_put (cs := #[.int .i64 t327, .bool t328, .string t329, .string (⟨#[]⟩ : ByteArray)]) ?_ 3 _ rfl; (with_reducible repeat (first | refine vN ?_ _ | refine vD ?_ | refine vA ?_ _)); refine blk_put (cs := #[.int .i64 t327, .bool t328, .string (⟨#[]⟩ : ByteArray), .string (⟨#[]⟩ : ByteArray)]) ?_ 2 _ rfl; (with_reducible repeat (first | refine vN ?_ _ | refine vD ?_ | refine vA ?_ _)); refine blk_put (cs := #[.int .i64 t327, .bool false, .string (⟨#[]⟩ : ByteArray), .string (⟨#[]⟩ : ByteArray)]) ?_ 1 _ rfl; (with_reducible repeat (first | refine vN ?_ _ | refine vD ?_ | refine vA ?_ _)); refine blk_put (cs := #[.int .i64 0, .bool false, .string (⟨#[]⟩ : ByteArray), .string (⟨#[]⟩ : ByteArray)]) ?_ 0 _ rfl; (with_reducible repeat (first | refine vN ?_ _ | refine vD ?_ | refine vA ?_ _)); exact BK332.out⟩; have n1_ : Aside0 (Below w.heap.size w ((((w50.setCell ⟨gb332, 0, none⟩ (.int .i64 t327)).setCell ⟨gb332, 1, none⟩ (.bool t328)).setCell ⟨gb332, 2, none⟩ (.string t329)).setCell ⟨gb332, 3, none⟩ (.string t330))) := ⟨bl⟩; (try clear BK332); (try clear HB); generalize ((((w50.setCell ⟨gb332, 0, none⟩ (.int .i64 t327)).setCell ⟨gb332, 1, none⟩ (.bool t328)).setCell ⟨gb332, 2, none⟩ (.string t329)).setCell ⟨gb332, 3, none⟩ (.string t330)) = w52 at n0_ n1_ ⊢; have BK332 := n0_; have HB := n1_; clear n0_ n1_; replace BK332 := AM (vD BK332.out); replace HB := AM (wD HB.out); refine Classical.byCases (p := (t331 = true)) (fun c39 => ?x16) (fun c39 => ?y16)
                case' x16 =>
                 subst c39; have H1 : (if t337 = true then (if t343 = true then (if (t327 == t333 && (t328 == t334 && (t329.toList == t335.toList && (t330.toList == t336.toList)))) = true then (if (t339 == t347 && (t340 == t348 && (t341.toList == t349.toList && (t342.toList == t350.toList)))) = true then (if x11_2.toList = ([] : List UInt8) then (if js1.size + 2 ≤ 9223372036854775807 then (if (js1 ++ (⟨#[101, 45]⟩ : ByteArray)).size + x11_2.size ≤ 9223372036854775807 then (if ((js1 ++ (⟨#[101, 45]⟩ : ByteArray)) ++ x11_2).size + 1 ≤ 9223372036854775807 then ((float11_Is.f k2 (((js1 ++ (⟨#[101, 45]⟩ : ByteArray)) ++ x11_2) ++ (⟨#[95]⟩ : ByteArray))).bind fun t353 => (some (!t353))) else (none)) else (none)) else (none)) else (if x11_2.size + js1.size ≤ 9223372036854775807 then ((float11_Is.f k2 (x11_2 ++ js1)).bind fun t354 => (if t354 = true then (some false) else (if js1.size + 2 ≤ 9223372036854775807 then (if (js1 ++ (⟨#[101, 45]⟩ : ByteArray)).size + x11_2.size ≤ 9223372036854775807 then (if ((js1 ++ (⟨#[101, 45]⟩ : ByteArray)) ++ x11_2).size + 1 ≤ 9223372036854775807 then ((float11_Is.f k2 (((js1 ++ (⟨#[101, 45]⟩ : ByteArray)) ++ x11_2) ++ (⟨#[95]⟩ : ByteArray))).bind fun t355 => (some (!t355))) else (none)) else (none)) else (none)))) else (none))) else (some false)) else (some false)) else (some false)) else (some false)) = some r := by rw [if_pos rfl] at H; exact H
                 clear H; have H := H1; clear H1; refine Classical.byCases (p := (t337 = true)) (fun c40 => ?x17) (fun c40 => ?y17)
                 case' x17 =>
                  subst c40; have H1 : (if t343 = true then (if (t327 == t333 && (t328 == t334 && (t329.toList == t335.toList && (t330.toList == t336.toList)))) = true then (if (t339 == t347 && (t340 == t348 && (t341.toList == t349.toList && (t342.toList == t350.toList)))) = true then (if x11_2.toList = ([] : List UInt8) then (if js1.size + 2 ≤ 9223372036854775807 then (if (js1 ++ (⟨#[101, 45]⟩ : ByteArray)).size + x11_2.size ≤ 9223372036854775807 then (if ((js1 ++ (⟨#[101, 45]⟩ : ByteArray)) ++ x11_2).size + 1 ≤ 9223372036854775807 then ((float11_Is.f k2 (((js1 ++ (⟨#[101, 45]⟩ : ByteArray)) ++ x11_2) ++ (⟨#[95]⟩ : ByteArray))).bind fun t353 => (some (!t353))) else (none)) else (none)) else (none)) else (if x11_2.size + js1.size ≤ 9223372036854775807 then ((float11_Is.f k2 (x11_2 ++ js1)).bind fun t354 => (if t354 = true then (some false) else (if js1.size + 2 ≤ 9223372036854775807 then (if (js1 ++ (⟨#[101, 45]⟩ : ByteArray)).size + x11_2.size ≤ 9223372036854775807 then (if ((js1 ++ (⟨#[101, 45]⟩ : ByteArray)) ++ x11_2).size + 1 ≤ 9223372036854775807 then ((float11_Is.f k2 (((js1 ++ (⟨#[101, 45]⟩ : ByteArray)) ++ x11_2) ++ (⟨#[95]⟩ : ByteArray))).bind fun t355 => (some (!t355))) else (none)) else (none)) else (none)))) else (none))) else (some false)) else (some false)) else (some false)) = some r := by rw [if_pos rfl] at H; exact H
                  clear H; have H := H1; clear H1; refine Classical.byCases (p := (t343 = true)) (fun c41 => ?x18) (fun c41 => ?y18)
                  case' x18 =>
                   subst c41; have H1 : (if (t327 == t333 && (t328 == t334 && (t329.toList == t335.toList && (t330.toList == t336.toList)))) = true then (if (t339 == t347 && (t340 == t348 && (t341.toList == t349.toList && (t342.toList == t350.toList)))) = true then (if x11_2.toList = ([] : List UInt8) then (if js1.size + 2 ≤ 9223372036854775807 then (if (js1 ++ (⟨#[101, 45]⟩ : ByteArray)).size + x11_2.size ≤ 9223372036854775807 then (if ((js1 ++ (⟨#[101, 45]⟩ : ByteArray)) ++ x11_2).size + 1 ≤ 9223372036854775807 then ((float11_Is.f k2 (((js1 ++ (⟨#[101, 45]⟩ : ByteArray)) ++ x11_2) ++ (⟨#[95]⟩ : ByteArray))).bind fun t353 => (some (!t353))) else (none)) else (none)) else (none)) else (if x11_2.size + js1.size ≤ 9223372036854775807 then ((float11_Is.f k2 (x11_2 ++ js1)).bind fun t354 => (if t354 = true then (some false) else (if js1.size + 2 ≤ 9223372036854775807 then (if (js1 ++ (⟨#[101, 45]⟩ : ByteArray)).size + x11_2.size ≤ 9223372036854775807 then (if ((js1 ++ (⟨#[101, 45]⟩ : ByteArray)) ++ x11_2).size + 1 ≤ 9223372036854775807 then ((float11_Is.f k2 (((js1 ++ (⟨#[101, 45]⟩ : ByteArray)) ++ x11_2) ++ (⟨#[95]⟩ : ByteArray))).bind fun t355 => (some (!t355))) else (none)) else (none)) else (none)))) else (none))) else (some false)) else (some false)) = some r := by rw [if_pos rfl] at H; exact H
                   clear H; have H := H1; clear H1; refine start_ (n := 16) (S := fun w' => True) (ds := []) #[false, false, false, false, false, false, false, false, false, false, false, false, false, false, false, false] (by kernel_rfl) rfl rfl trivial (fun hHeld => ?_); refine with_tabW targumlaw7_Float11Gaps.tab13 targumlaw7_Float11Gaps.bits13 (fun HT_ HW_ => ?_); generalize w52.drew = w53 at BK332 HB hHeld ⊢; refine pure_ (i := 0) (N := some 63) (v := ?_) (a' := ?_) #[true, false, false, false, false, false, false, false, false, false, false, false, false, false, false, false] rfl rfl (any_of HT_.out (by kernel_rfl)) (fun _ _ _ h => h) (Or.inl ⟨by rfl, ?_⟩) ?_ ?_; rotate_left
                   ·intro w'
                    go_simp; with_reducible rfl
                   rotate_left
                   ·simp only [Act.put, qI, qz, qs, qi, qj]
                    rfl
                   refine pure_ (i := 1) (N := some 64) (v := ?_) (a' := ?_) #[true, true, false, false, false, false, false, false, false, false, false, false, false, false, false, false] rfl rfl (any_of HT_.out (by kernel_rfl)) (fun _ _ _ h => h) (Or.inl ⟨by rfl, ?_⟩) ?_ ?_; rotate_left
                   ·intro w'
                    go_simp; with_reducible rfl
                   rotate_left
                   ·simp only [Act.put, qI, qz, qs, qi, qj]
                    rfl
                   refine pure_ (i := 2) (N := some 65) (v := ?_) (a' := ?_) #[true, true, true, false, false, false, false, false, false, false, false, false, false, false, false, false] rfl rfl (any_of HT_.out (by kernel_rfl)) (fun _ _ _ h => h) (Or.inl ⟨by rfl, ?_⟩) ?_ ?_; rotate_left
                   ·intro w'
                    go_simp; with_reducible rfl
                   rotate_left
                   ·simp only [Act.put, qI, qz, qs, qi, qj]
                    rfl
                   refine pure_ (i := 3) (N := some 66) (v := ?_) (a' := ?_) #[true, true, true, true, false, false, false, false, false, false, false, false, false, false, false, false] rfl rfl (any_of HT_.out (by kernel_rfl)) (fun _ _ _ h => h) (Or.inl ⟨by rfl, ?_⟩) ?_ ?_; rotate_left
                   ·intro w'
                    go_simp; with_reducible rfl
                   rotate_left
                   ·simp only [Act.put, qI, qz, qs, qi, qj]
                    rfl
                   refine pure_ (i := 4) (N := some 67) (v := ?_) (a' := ?_) #[true, true, true, true, true, false, false, false, false, false, false, false, false, false, false, false] rfl rfl (any_of HT_.out (by kernel_rfl)) (fun _ _ _ h => h) (Or.inl ⟨by rfl, ?_⟩) ?_ ?_; rotate_left
                   ·intro w'
                    go_simp; with_reducible rfl
                   rotate_left
                   ·simp only [Act.put, qI, qz, qs, qi, qj]
                    rfl
                   refine pure_ (i := 5) (N := some 68) (v := ?_) (a' := ?_) #[true, true, true, true, true, true, false, false, false, false, false, false, false, false, false, false] rfl rfl (any_of HT_.out (by kernel_rfl)) (fun _ _ _ h => h) (Or.inl ⟨by rfl, ?_⟩) ?_ ?_; rotate_left
                   ·intro w'
                    go_simp; with_reducible rfl
                   rotate_left
                   ·simp only [Act.put, qI, qz, qs, qi, qj]
                    rfl
                   refine pure_ (i := 6) (N := some 69) (v := ?_) (a' := ?_) #[true, true, true, true, true, true, true, false, false, false, false, false, false, false, false, false] rfl rfl (any_of HT_.out (by kernel_rfl)) (fun _ _ _ h => h) (Or.inl ⟨by rfl, ?_⟩) ?_ ?_; rotate_left
                   ·intro w'
                    go_simp; with_reducible rfl
                   rotate_left
                   ·simp only [Act.put, qI, qz, qs, qi, qj]
                    rfl
                   refine pure_ (i := 7) (N := some 70) (v := ?_) (a' := ?_) #[true, true, true, true, true, true, true, true, false, false, false, false, false, false, false, false] rfl rfl (any_of HT_.out (by kernel_rfl)) (fun _ _ _ h => h) (Or.inl ⟨by rfl, ?_⟩) ?_ ?_; rotate_left
                   ·intro w'
                    go_simp; with_reducible rfl
                   rotate_left
                   ·simp only [Act.put, qI, qz, qs, qi, qj]
                    rfl
                   refine pure_ (i := 8) (N := some 71) (v := ?_) (a' := ?_) #[true, true, true, true, true, true, true, true, true, false, false, false, false, false, false, false] rfl rfl (any_of HT_.out (by kernel_rfl)) (fun _ _ _ h => h) (Or.inl ⟨by rfl, ?_⟩) ?_ ?_; rotate_left
                   ·intro w'
                    go_simp; with_reducible rfl
                   rotate_left
                   ·simp only [Act.put, qI, qz, qs, qi, qj]
                    rfl
                   refine join_ (σ := Nat) 2 #[true, true, true, true, true, true, true, true, true, true, true, true, true, true, false, false] (fun s_ => [(72, .tuple #[.agg #[.int .i64 t333, .bool t334, .string t335, .string t336], .bool true]), (15, .pointer (some ⟨s_, 0, none⟩)), (62, .tuple #[.agg #[.int .i64 t333, .bool t334, .string t335, .string t336], .bool true]), (73, .agg #[.int .i64 t333, .bool t334, .string t335, .string t336]), (74, .bool true)]) (fun s_ w' => (w'.heap[gb332]? = some (.cells #[.int .i64 t327, .bool t328, .string t329, .string t330] 26 (0, 0))) ∧ (w'.heap[s_]? = some (.cells #[.int .i64 0, .bool false, .string (⟨#[]⟩ : ByteArray), .string (⟨#[]⟩ : ByteArray)] 26 (0, 0))) ∧ (w.heap.size ≤ s_) ∧ (w.heap.size ≤ s_) ∧ (gb332 ≠ s_) ∧ (s_ ≠ gb332) ∧ (Below w.heap.size w w')) ?_ ?_; rotate_left
                   ·as_aux_lemma =>
                    intro hCont; refine two_ (i := 9) (j := 13) (Ni := some 72) (Nj := some 15) #[true, true, true, true, true, true, true, true, true, true, false, false, false, false, false, false] #[true, true, true, true, true, true, true, true, true, false, false, false, false, true, false, false] rfl rfl rfl rfl (two_of HT_.out (by kernel_rfl)) (by decide) (by decide) (fun K hK => ?_) (fun K hK => ?_)
                    ·skip
                     refine goes_ Tryz.func8 (by kernel_rfl) rfl #[.string (((js1.extract 0 ((ji22) : Int).toNat) ++ x11_2) ++ (js1.extract ((ji22) : Int).toNat js1.size))] (by rfl) rfl rfl (by (try simp only [qT, qC, qN]); first | done | (simp only [hji22]; rfl) | rfl | (simp only [qD, qU]; rfl)) ?_; with_reducible refine (float11_Of.calls k2 (((js1.extract 0 ((ji22) : Int).toNat) ++ x11_2) ++ (js1.extract ((ji22) : Int).toNat js1.size)) t333 t334 t335 t336 true _ ?side1 A29.out).mono ?_; (case side1 => exact Go.Proofs.YtkijneohhilboaaGreatDoor.PKT.Tabs_below HG.out bl); rintro e w54 ⟨rfl, hb⟩; refine ⟨_, rfl, ?_⟩; replace BK332 := AM (blk_below (g := gb332) (o := .cells #[.int .i64 t327, .bool t328, .string t329, .string t330] 26 (0, 0)) bk hb); replace HB := AM (below_step bl hb); (try clear hb); refine hK.out _ _ trivial (fun hHeld => ?_); clear hK K; refine norm_ (a' := ?_) ?_ ?_; rotate_left
                     ·show Act.put _ (some 72) _ = _
                      simp only [Act.put, qI, qz, qs, qi, qj]; rfl
                     refine pure_ (i := 10) (N := some 62) (v := ?_) (a' := ?_) #[true, true, true, true, true, true, true, true, true, true, true, false, false, false, false, false] rfl rfl (any_of HT_.out (by kernel_rfl)) (fun _ _ _ h => h) (Or.inl ⟨by rfl, ?_⟩) ?_ ?_; rotate_left
                     ·intro w'
                      go_simp; with_reducible rfl
                     rotate_left
                     ·simp only [Act.put, qI, qz, qs, qi, qj]
                      rfl
                     refine pure_ (i := 11) (N := some 73) (v := ?_) (a' := ?_) #[true, true, true, true, true, true, true, true, true, true, true, true, false, false, false, false] rfl rfl (any_of HT_.out (by kernel_rfl)) (fun _ _ _ h => h) (Or.inl ⟨by rfl, ?_⟩) ?_ ?_; rotate_left
                     ·intro w'
                      go_simp; with_reducible rfl
                     rotate_left
                     ·simp only [Act.put, qI, qz, qs, qi, qj]
                      rfl
                     refine pure_ (i := 12) (N := some 74) (v := ?_) (a' := ?_) #[true, true, true, true, true, true, true, true, true, true, true, true, true, false, false, false] rfl rfl (any_of HT_.out (by kernel_rfl)) (fun _ _ _ h => h) (Or.inl ⟨by rfl, ?_⟩) ?_ ?_; rotate_left
                     ·intro w'
                      go_simp; with_reducible rfl
                     rotate_left
                     ·simp only [Act.put, qI, qz, qs, qi, qj]
                      rfl
                     refine one_ (i := 13) (N := some 15) #[true, true, true, true, true, true, true, true, true, true, true, true, true, true, false, false] rfl rfl (one_of HT_.out (by kernel_rfl)) (by decide) (fun K hK => ?_); refine box_step ?hg (N := 15) ?hd (cs := #[.int .i64 0, .bool false, .string (⟨#[]⟩ : ByteArray), .string (⟨#[]⟩ : ByteArray)]) (t := 26) ?hr ?_; (case hd => rfl); (case hg => rfl); (case hr => first | (go_simp; done) | (go_simp; rfl)); intro gb338 hg w55 hbox hb; have NB332_338 := AM ((by rw [hg]; exact Nat.ne_of_lt (blk_lt (g := gb332) (o := .cells #[.int .i64 t327, .bool t328, .string t329, .string t330] 26 (0, 0)) bk) : gb332 ≠ gb338)); have NB338_332 := AM (Ne.symm NB332_338.out); have GW338 := gq (w := w) hg; have GE338 := GW338; replace BK332 := AM (blk_below (g := gb332) (o := .cells #[.int .i64 t327, .bool t328, .string t329, .string t330] 26 (0, 0)) bk hb); replace HB := AM (below_step bl hb); have BK338 := AM (hbox); clear hb hbox hg; refine hK.out _ _ trivial (fun hHeld => ?_); clear hK K; refine norm_ (a' := ?_) ?_ ?_; rotate_left
                     ·show Act.put _ (some 15) _ = _
                      simp only [Act.put, qI, qz, qs, qi, qj]; rfl
                     exact norm_ (by simp only [putAll, Act.put, qI, qz, qs]) (hCont (gb338) _ ⟨bk, bk, GW338.out, GE338.out, NB332_338.out, NB338_332.out, bl⟩)
                    ·skip
                     refine box_step ?hg (N := 15) ?hd (cs := #[.int .i64 0, .bool false, .string (⟨#[]⟩ : ByteArray), .string (⟨#[]⟩ : ByteArray)]) (t := 26) ?hr ?_; (case hd => rfl); (case hg => rfl); (case hr => first | (go_simp; done) | (go_simp; rfl)); intro gb338 hg w54 hbox hb; have NB332_338 := AM ((by rw [hg]; exact Nat.ne_of_lt (blk_lt (g := gb332) (o := .cells #[.int .i64 t327, .bool t328, .string t329, .string t330] 26 (0, 0)) bk) : gb332 ≠ gb338)); have NB338_332 := AM (Ne.symm NB332_338.out); have GW338 := gq (w := w) hg; have GE338 := GW338; replace BK332 := AM (blk_below (g := gb332) (o := .cells #[.int .i64 t327, .bool t328, .string t329, .string t330] 26 (0, 0)) bk hb); replace HB := AM (below_step bl hb); have BK338 := AM (hbox); clear hb hbox hg; refine hK.out _ _ trivial (fun hHeld => ?_); clear hK K; refine norm_ (a' := ?_) ?_ ?_; rotate_left
                     ·show Act.put _ (some 15) _ = _
                      simp only [Act.put, qI, qz, qs, qi, qj]; rfl
                     refine one_ (i := 9) (N := some 72) #[true, true, true, true, true, true, true, true, true, true, false, false, false, true, false, false] rfl rfl (one_of HT_.out (by kernel_rfl)) (by decide) (fun K hK => ?_); refine goes_ Tryz.func8 (by kernel_rfl) rfl #[.string (((js1.extract 0 ((ji22) : Int).toNat) ++ x11_2) ++ (js1.extract ((ji22) : Int).toNat js1.size))] (by rfl) rfl rfl (by (try simp only [qT, qC, qN]); first | done | (simp only [hji22]; rfl) | rfl | (simp only [qD, qU]; rfl)) ?_; with_reducible refine (float11_Of.calls k2 (((js1.extract 0 ((ji22) : Int).toNat) ++ x11_2) ++ (js1.extract ((ji22) : Int).toNat js1.size)) t333 t334 t335 t336 true _ ?side1 A29.out).mono ?_; (case side1 => exact Go.Proofs.YtkijneohhilboaaGreatDoor.PKT.Tabs_below HG.out bl); rintro e w55 ⟨rfl, hb⟩; refine ⟨_, rfl, ?_⟩; replace BK332 := AM (blk_below (g := gb332) (o := .cells #[.int .i64 t327, .bool t328, .string t329, .string t330] 26 (0, 0)) bk hb); replace BK338 := AM (blk_below (g := gb338) (o := .cells #[.int .i64 0, .bool false, .string (⟨#[]⟩ : ByteArray), .string (⟨#[]⟩ : ByteArray)] 26 (0, 0)) bk hb); replace HB := AM (below_step bl hb); (try clear hb); refine hK.out _ _ trivial (fun hHeld => ?_); clear hK K; refine norm_ (a' := ?_) ?_ ?_; rotate_left
                     ·show Act.put _ (some 72) _ = _
                      simp only [Act.put, qI, qz, qs, qi, qj]; rfl
                     refine pure_ (i := 10) (N := some 62) (v := ?_) (a' := ?_) #[true, true, true, true, true, true, true, true, true, true, true, false, false, true, false, false] rfl rfl (any_of HT_.out (by kernel_rfl)) (fun _ _ _ h => h) (Or.inl ⟨by rfl, ?_⟩) ?_ ?_; rotate_left
                     ·intro w'
                      go_simp; with_reducible rfl
                     rotate_left
                     ·simp only [Act.put, qI, qz, qs, qi, qj]
                      rfl
                     refine pure_ (i := 11) (N := some 73) (v := ?_) (a' := ?_) #[true, true, true, true, true, true, true, true, true, true, true, true, false, true, false, false] rfl rfl (any_of HT_.out (by kernel_rfl)) (fun _ _ _ h => h) (Or.inl ⟨by rfl, ?_⟩) ?_ ?_; rotate_left
                     ·intro w'
                      go_simp; with_reducible rfl
                     rotate_left
                     ·simp only [Act.put, qI, qz, qs, qi, qj]
                      rfl
                     refine pure_ (i := 12) (N := some 74) (v := ?_) (a' := ?_) #[true, true, true, true, true, true, true, true, true, true, true, true, true, true, false, false] rfl rfl (any_of HT_.out (by kernel_rfl)) (fun _ _ _ h => h) (Or.inl ⟨by rfl, ?_⟩) ?_ ?_; rotate_left
                     ·intro w'
                      go_simp; with_reducible rfl
                     rotate_left
                     ·simp only [Act.put, qI, qz, qs, qi, qj]
                      rfl
                     exact norm_ (by simp only [putAll, Act.put, qI, qz, qs]) (hCont (gb338) _ ⟨bk, bk, GW338.out, GE338.out, NB332_338.out, NB338_332.out, bl⟩)
                   rintro gb338 w56 ⟨h0_, h1_, h2_, h3_, h4_, h5_, h6_⟩; have n0_ : Aside0 (w56.heap[gb332]? = some (.cells #[.int .i64 t327, .bool t328, .string t329, .string t330] 26 (0, 0))) := ⟨h0_⟩; have n1_ : Aside0 (w56.heap[gb338]? = some (.cells #[.int .i64 0, .bool false, .string (⟨#[]⟩ : ByteArray), .string (⟨#[]⟩ : ByteArray)] 26 (0, 0))) := ⟨h1_⟩; have n2_ : Aside0 (w.heap.size ≤ gb338) := ⟨h2_⟩; have n3_ : Aside0 (w.heap.size ≤ gb338) := ⟨h3_⟩; have n4_ : Aside0 (gb332 ≠ gb338) := ⟨h4_⟩; have n5_ : Aside0 (gb338 ≠ gb332) := ⟨h5_⟩; have n6_ : Aside0 (Below w.heap.size w w56) := ⟨h6_⟩; clear BK332; clear HB; clear h0_ h1_ h2_ h3_ h4_ h5_ h6_; have BK332 := n0_; have BK338 := n1_; have GW338 := n2_; have GE338 := n3_; have NB332_338 := n4_; have NB338_332 := n5_; have HB := n6_; clear n0_ n1_ n2_ n3_ n4_ n5_ n6_; have hHeld := trivial; refine norm_ (a' := ?_) ?_ ?_; rotate_left
                   ·simp only [putAll, Act.put, qI, qz, qs]
                    rfl
                   refine one_ (i := 14) (N := none) #[true, true, true, true, true, true, true, true, true, true, true, true, true, true, true, false] rfl rfl (one_of HT_.out (by kernel_rfl)) (by decide) (fun K hK => ?_); have hs57 : w56.cell? ⟨gb338, 0, none⟩ = some (.int .i64 0) := (blk_cell BK338.out 0).trans rfl; have hfs57 := blk_frozen BK338.out 0; have hns57_0 := NB332_338.out; have hms57_0 := NB338_332.out; have hs58 : w56.cell? ⟨gb338, 1, none⟩ = some (.bool false) := (blk_cell BK338.out 1).trans rfl; have hfs58 := blk_frozen BK338.out 1; have hns58_0 := NB332_338.out; have hms58_0 := NB338_332.out; have hs59 : w56.cell? ⟨gb338, 2, none⟩ = some (.string (⟨#[]⟩ : ByteArray)) := (blk_cell BK338.out 2).trans rfl; have hfs59 := blk_frozen BK338.out 2; have hns59_0 := NB332_338.out; have hms59_0 := NB338_332.out; have hs60 : w56.cell? ⟨gb338, 3, none⟩ = some (.string (⟨#[]⟩ : ByteArray)) := (blk_cell BK338.out 3).trans rfl; have hfs60 := blk_frozen BK338.out 3; have hns60_0 := NB332_338.out; have hms60_0 := NB338_332.out; refine skip_ (w1 := ?_) (by rfl) rfl ?_ ?_; rotate_left
                   ·go_simp
                    rfl
                   refine hK.out _ _ trivial (fun hHeld => ?_); clear hK K; refine pure_ (i := 15) (N := some 16) (v := ?_) (a' := ?_) #[true, true, true, true, true, true, true, true, true, true, true, true, true, true, true, true] rfl rfl (any_of HT_.out (by kernel_rfl)) (fun _ _ _ h => h) (Or.inl ⟨by rfl, ?_⟩) ?_ ?_; rotate_left
                   ·intro w'
                    go_simp; with_reducible rfl
                   rotate_left
                   ·simp only [Act.put, qI, qz, qs, qi, qj]
                    rfl
                   refine done_ (done_of HT_.out (by kernel_rfl)) ?_; try go_wp2
                   have n0_ : Aside0 (((((w56.setCell ⟨gb338, 0, none⟩ (.int .i64 t333)).setCell ⟨gb338, 1, none⟩ (.bool t334)).setCell ⟨gb338, 2, none⟩ (.string t335)).setCell ⟨gb338, 3, none⟩ (.string t336)).heap[gb332]? = some (.cells #[.int .i64 t327, .bool t328, .string t329, .string t330] 26 (0, 0))) := ⟨by (with_reducible repeat (first | refine vN ?_ _ | refine vD ?_ | refine vA ?_ _)); refine blk_far ?_ NB332_338.out _; (with_reducible repeat (first | refine vN ?_ _ | refine vD ?_ | refine vA ?_ _)); refine blk_far ?_ NB332_338.out _; (with_reducible repeat (first | refine vN ?_ _ | refine vD ?_ | refine vA ?_ _)); refine blk_far ?_ NB332_338.out _; (with_reducible repeat (first | refine vN ?_ _ | refine vD ?_ | refine vA ?_ _)); refine blk_far ?_ NB332_338.out _; (with_reducible repeat (first | refine vN ?_ _ | refine vD ?_ | refine vA ?_ _)); exact BK332.out⟩; have n1_ : Aside0 (((((w56.setCell ⟨gb338, 0, none⟩ (.int .i64 t333)).setCell ⟨gb338, 1, none⟩ (.bool t334)).setCell ⟨gb338, 2, none⟩ (.string t335)).setCell ⟨gb338, 3, none⟩ (.string t336)).heap[gb338]? = some (.cells #[.int .i64 t333, .bool t334, .string t335, .string t336] 26 (0, 0))) := ⟨by (with_reducible repeat (first | refine vN ?_ _ | refine vD ?_ | refine vA ?_ _)); refine blk_put (cs := #[.int .i64 t333, .bool t334, .string t335, .string (⟨#[]⟩ : ByteArray)]) ?_ 3 _ rfl; (with_reducible repeat (first | refine vN ?_ _ | refine vD ?_ | refine vA ?_ _)); refine blk_put (cs := #[.int .i64 t333, .bool t334, .string (⟨#[]⟩ : ByteArray), .string (⟨#[]⟩ : ByteArray)]) ?_ 2 _ rfl; (with_reducible repeat (first | refine vN ?_ _ | refine vD ?_ | refine vA ?_ _)); refine blk_put (cs := #[.int .i64 t333, .bool false, .string (⟨#[]⟩ : ByteArray), .string (⟨#[]⟩ : ByteArray)]) ?_ 1 _ rfl; (with_reducible repeat (first | refine vN ?_ _ | refine vD ?_ | refine vA ?_ _)); refine blk_put (cs := #[.int .i64 0, .bool false, .string (⟨#[]⟩ : ByteArray), .string (⟨#[]⟩ : ByteArray)]) ?_ 0 _ rfl; (with_reducible repeat (first | refine vN ?_ _ | refine vD ?_ | refine vA ?_ _)); exact BK338.out⟩; have n2_ : Aside0 (Below w.heap.size w ((((w56.setCell ⟨gb338, 0, none⟩ (.int .i64 t333)).setCell ⟨gb338, 1, none⟩ (.bool t334)).setCell ⟨gb338, 2, none⟩ (.string t335)).setCell ⟨gb338, 3, none⟩ (.string t336))) := ⟨bl⟩; (try clear BK332); (try clear BK338); (try clear HB); generalize ((((w56.setCell ⟨gb338, 0, none⟩ (.int .i64 t333)).setCell ⟨gb338, 1, none⟩ (.bool t334)).setCell ⟨gb338, 2, none⟩ (.string t335)).setCell ⟨gb338, 3, none⟩ (.string t336)) = w61 at n0_ n1_ n2_ ⊢; have BK332 := n0_; have BK338 := n1_; have HB := n2_; clear n0_ n1_ n2_; have n0_ := AM (vD BK332.out); have n1_ := AM (vD BK338.out); have n2_ := AM (wD HB.out); clear BK332
                   clear BK338; clear HB; have BK332 := n0_; have BK338 := n1_; have HB := n2_; clear n0_ n1_ n2_; refine start_ (n := 17) (S := fun w' => True) (ds := []) #[false, false, false, false, false, false, false, false, false, false, false, false, false, false, false, false, false] (by kernel_rfl) rfl rfl trivial (fun hHeld => ?_); refine with_tabW targumlaw7_Float11Gaps.tab14 targumlaw7_Float11Gaps.bits14 (fun HT_ HW_ => ?_); generalize w61.drew = w62 at BK332 BK338 HB hHeld ⊢; refine pure_ (i := 0) (N := some 76) (v := ?_) (a' := ?_) #[true, false, false, false, false, false, false, false, false, false, false, false, false, false, false, false, false] rfl rfl (any_of HT_.out (by kernel_rfl)) (fun _ _ _ h => h) (Or.inl ⟨by rfl, ?_⟩) ?_ ?_; rotate_left
                   ·intro w'
                    go_simp; with_reducible rfl
                   rotate_left
                   ·simp only [Act.put, qI, qz, qs, qi, qj]
                    rfl
                   refine pure_ (i := 1) (N := some 77) (v := ?_) (a' := ?_) #[true, true, false, false, false, false, false, false, false, false, false, false, false, false, false, false, false] rfl rfl (any_of HT_.out (by kernel_rfl)) (fun _ _ _ h => h) (Or.inl ⟨by rfl, ?_⟩) ?_ ?_; rotate_left
                   ·intro w'
                    go_simp; with_reducible rfl
                   rotate_left
                   ·simp only [Act.put, qI, qz, qs, qi, qj]
                    rfl
                   refine pure_ (i := 2) (N := some 78) (v := ?_) (a' := ?_) #[true, true, true, false, false, false, false, false, false, false, false, false, false, false, false, false, false] rfl rfl (any_of HT_.out (by kernel_rfl)) (fun _ _ _ h => h) (Or.inl ⟨by rfl, ?_⟩) ?_ ?_; rotate_left
                   ·intro w'
                    go_simp; with_reducible rfl
                   rotate_left
                   ·simp only [Act.put, qI, qz, qs, qi, qj]
                    rfl
                   refine pure_ (i := 3) (N := some 79) (v := ?_) (a' := ?_) #[true, true, true, true, false, false, false, false, false, false, false, false, false, false, false, false, false] rfl rfl (any_of HT_.out (by kernel_rfl)) (fun _ _ _ h => h) (Or.inl ⟨by rfl, ?_⟩) ?_ ?_; rotate_left
                   ·intro w'
                    go_simp; with_reducible rfl
                   rotate_left
                   ·simp only [Act.put, qI, qz, qs, qi, qj]
                    rfl
                   refine pure_ (i := 4) (N := some 80) (v := ?_) (a' := ?_) #[true, true, true, true, true, false, false, false, false, false, false, false, false, false, false, false, false] rfl rfl (any_of HT_.out (by kernel_rfl)) (fun _ _ _ h => h) (Or.inl ⟨by rfl, ?_⟩) ?_ ?_; rotate_left
                   ·intro w'
                    go_simp; with_reducible rfl
                   rotate_left
                   ·simp only [Act.put, qI, qz, qs, qi, qj]
                    rfl
                   refine pure_ (i := 5) (N := some 81) (v := ?_) (a' := ?_) #[true, true, true, true, true, true, false, false, false, false, false, false, false, false, false, false, false] rfl rfl (any_of HT_.out (by kernel_rfl)) (fun _ _ _ h => h) (Or.inl ⟨by rfl, ?_⟩) ?_ ?_; rotate_left
                   ·intro w'
                    go_simp; with_reducible rfl
                   rotate_left
                   ·simp only [Act.put, qI, qz, qs, qi, qj]
                    rfl
                   refine pure_ (i := 6) (N := some 82) (v := ?_) (a' := ?_) #[true, true, true, true, true, true, true, false, false, false, false, false, false, false, false, false, false] rfl rfl (any_of HT_.out (by kernel_rfl)) (fun _ _ _ h => h) (Or.inl ⟨by rfl, ?_⟩) ?_ ?_; rotate_left
                   ·intro w'
                    go_simp; with_reducible rfl
                   rotate_left
                   ·simp only [Act.put, qI, qz, qs, qi, qj]
                    rfl
                   refine pure_ (i := 7) (N := some 83) (v := ?_) (a' := ?_) #[true, true, true, true, true, true, true, true, false, false, false, false, false, false, false, false, false] rfl rfl (any_of HT_.out (by kernel_rfl)) (fun _ _ _ h => h) (Or.inl ⟨by rfl, ?_⟩) ?_ ?_; rotate_left
                   ·intro w'
                    go_simp; with_reducible rfl
                   rotate_left
                   ·simp only [Act.put, qI, qz, qs, qi, qj]
                    rfl
                   refine pure_ (i := 8) (N := some 84) (v := ?_) (a' := ?_) #[true, true, true, true, true, true, true, true, true, false, false, false, false, false, false, false, false] rfl rfl (any_of HT_.out (by kernel_rfl)) (fun _ _ _ h => h) (Or.inl ⟨by rfl, ?_⟩) ?_ ?_; rotate_left
                   ·intro w'
                    go_simp; with_reducible rfl
                   rotate_left
                   ·simp only [Act.put, qI, qz, qs, qi, qj]
                    rfl
                   refine pure_ (i := 9) (N := some 85) (v := ?_) (a' := ?_) #[true, true, true, true, true, true, true, true, true, true, false, false, false, false, false, false, false] rfl rfl (any_of HT_.out (by kernel_rfl)) (fun _ _ _ h => h) (Or.inl ⟨by rfl, ?_⟩) ?_ ?_; rotate_left
                   ·intro w'
                    go_simp; with_reducible rfl
                   rotate_left
                   ·simp only [Act.put, qI, qz, qs, qi, qj]
                    rfl
                   refine join_ (σ := Nat) 2 #[true, true, true, true, true, true, true, true, true, true, true, true, true, true, true, false, false] (fun s_ => [(86, .tuple #[.agg #[.int .i64 t339, .bool t340, .string t341, .string t342], .bool true]), (17, .pointer (some ⟨s_, 0, none⟩)), (75, .tuple #[.agg #[.int .i64 t339, .bool t340, .string t341, .string t342], .bool true]), (87, .agg #[.int .i64 t339, .bool t340, .string t341, .string t342]), (88, .bool true)]) (fun s_ w' => (w'.heap[gb332]? = some (.cells #[.int .i64 t327, .bool t328, .string t329, .string t330] 26 (0, 0))) ∧ (w'.heap[gb338]? = some (.cells #[.int .i64 t333, .bool t334, .string t335, .string t336] 26 (0, 0))) ∧ (w'.heap[s_]? = some (.cells #[.int .i64 0, .bool false, .string (⟨#[]⟩ : ByteArray), .string (⟨#[]⟩ : ByteArray)] 26 (0, 0))) ∧ (w.heap.size ≤ s_) ∧ (w.heap.size ≤ s_) ∧ (gb332 ≠ s_) ∧ (s_ ≠ gb332) ∧ (gb338 ≠ s_) ∧ (s_ ≠ gb338) ∧ (Below w.heap.size w w')) ?_ ?_; rotate_left
                   ·as_aux_lemma =>
                    intro hCont; refine two_ (i := 10) (j := 14) (Ni := some 86) (Nj := some 17) #[true, true, true, true, true, true, true, true, true, true, true, false, false, false, false, false, false] #[true, true, true, true, true, true, true, true, true, true, false, false, false, false, true, false, false] rfl rfl rfl rfl (two_of HT_.out (by kernel_rfl)) (by decide) (by decide) (fun K hK => ?_) (fun K hK => ?_)
                    ·skip
                     refine goes_ Tryz.func8 (by kernel_rfl) rfl #[.string ((((js1.extract 0 ((ji22) : Int).toNat) ++ x11_2) ++ (js1.extract ((ji22) : Int).toNat js1.size)) ++ (⟨#[101, 45, 55]⟩ : ByteArray))] (by rfl) rfl rfl (by (try simp only [qT, qC, qN]); first | done | (simp only [hji22]; rfl) | rfl | (simp only [qD, qU]; rfl)) ?_; with_reducible refine (float11_Of.calls k2 ((((js1.extract 0 ((ji22) : Int).toNat) ++ x11_2) ++ (js1.extract ((ji22) : Int).toNat js1.size)) ++ (⟨#[101, 45, 55]⟩ : ByteArray)) t339 t340 t341 t342 true _ ?side1 A35.out).mono ?_; (case side1 => exact Go.Proofs.YtkijneohhilboaaGreatDoor.PKT.Tabs_below HG.out bl); rintro e w63 ⟨rfl, hb⟩; refine ⟨_, rfl, ?_⟩; replace BK332 := AM (blk_below (g := gb332) (o := .cells #[.int .i64 t327, .bool t328, .string t329, .string t330] 26 (0, 0)) bk hb); replace BK338 := AM (blk_below (g := gb338) (o := .cells #[.int .i64 t333, .bool t334, .string t335, .string t336] 26 (0, 0)) bk hb); replace HB := AM (below_step bl hb); (try clear hb); refine hK.out _ _ trivial (fun hHeld => ?_); clear hK K; refine norm_ (a' := ?_) ?_ ?_; rotate_left
                     ·show Act.put _ (some 86) _ = _
                      simp only [Act.put, qI, qz, qs, qi, qj]; rfl
                     refine pure_ (i := 11) (N := some 75) (v := ?_) (a' := ?_) #[true, true, true, true, true, true, true, true, true, true, true, true, false, false, false, false, false] rfl rfl (any_of HT_.out (by kernel_rfl)) (fun _ _ _ h => h) (Or.inl ⟨by rfl, ?_⟩) ?_ ?_; rotate_left
                     ·intro w'
                      go_simp; with_reducible rfl
                     rotate_left
                     ·simp only [Act.put, qI, qz, qs, qi, qj]
                      rfl
                     refine pure_ (i := 12) (N := some 87) (v := ?_) (a' := ?_) #[true, true, true, true, true, true, true, true, true, true, true, true, true, false, false, false, false] rfl rfl (any_of HT_.out (by kernel_rfl)) (fun _ _ _ h => h) (Or.inl ⟨by rfl, ?_⟩) ?_ ?_; rotate_left
                     ·intro w'
                      go_simp; with_reducible rfl
                     rotate_left
                     ·simp only [Act.put, qI, qz, qs, qi, qj]
                      rfl
                     refine pure_ (i := 13) (N := some 88) (v := ?_) (a' := ?_) #[true, true, true, true, true, true, true, true, true, true, true, true, true, true, false, false, false] rfl rfl (any_of HT_.out (by kernel_rfl)) (fun _ _ _ h => h) (Or.inl ⟨by rfl, ?_⟩) ?_ ?_; rotate_left
                     ·intro w'
                      go_simp; with_reducible rfl
                     rotate_left
                     ·simp only [Act.put, qI, qz, qs, qi, qj]
                      rfl
                     refine one_ (i := 14) (N := some 17) #[true, true, true, true, true, true, true, true, true, true, true, true, true, true, true, false, false] rfl rfl (one_of HT_.out (by kernel_rfl)) (by decide) (fun K hK => ?_); refine box_step ?hg (N := 17) ?hd (cs := #[.int .i64 0, .bool false, .string (⟨#[]⟩ : ByteArray), .string (⟨#[]⟩ : ByteArray)]) (t := 26) ?hr ?_; (case hd => rfl); (case hg => rfl); (case hr => first | (go_simp; done) | (go_simp; rfl)); intro gb344 hg w64 hbox hb; have NB332_344 := AM ((by rw [hg]; exact Nat.ne_of_lt (blk_lt (g := gb332) (o := .cells #[.int .i64 t327, .bool t328, .string t329, .string t330] 26 (0, 0)) bk) : gb332 ≠ gb344)); have NB344_332 := AM (Ne.symm NB332_344.out); have NB338_344 := AM ((by rw [hg]; exact Nat.ne_of_lt (blk_lt (g := gb338) (o := .cells #[.int .i64 t333, .bool t334, .string t335, .string t336] 26 (0, 0)) bk) : gb338 ≠ gb344)); have NB344_338 := AM (Ne.symm NB338_344.out); have GW344 := gq (w := w) hg; have GE344 := GW344; replace BK332 := AM (blk_below (g := gb332) (o := .cells #[.int .i64 t327, .bool t328, .string t329, .string t330] 26 (0, 0)) bk hb); replace BK338 := AM (blk_below (g := gb338) (o := .cells #[.int .i64 t333, .bool t334, .string t335, .string t336] 26 (0, 0)) bk hb); replace HB := AM (below_step bl hb); have BK344 := AM (hbox); clear hb hbox hg; refine hK.out _ _ trivial (fun hHeld => ?_); clear hK K; refine norm_ (a' := ?_) ?_ ?_; rotate_left
                     ·show Act.put _ (some 17) _ = _
                      simp only [Act.put, qI, qz, qs, qi, qj]; rfl
                     exact norm_ (by simp only [putAll, Act.put, qI, qz, qs]) (hCont (gb344) _ ⟨bk, bk, bk, GW344.out, GE344.out, NB332_344.out, NB344_332.out, NB338_344.out, NB344_338.out, bl⟩)
                    ·skip
                     refine box_step ?hg (N := 17) ?hd (cs := #[.int .i64 0, .bool false, .string (⟨#[]⟩ : ByteArray), .string (⟨#[]⟩ : ByteArray)]) (t := 26) ?hr ?_; (case hd => rfl); (case hg => rfl); (case hr => first | (go_simp; done) | (go_simp; rfl)); intro gb344 hg w63 hbox hb; have NB332_344 := AM ((by rw [hg]; exact Nat.ne_of_lt (blk_lt (g := gb332) (o := .cells #[.int .i64 t327, .bool t328, .string t329, .string t330] 26 (0, 0)) bk) : gb332 ≠ gb344)); have NB344_332 := AM (Ne.symm NB332_344.out); have NB338_344 := AM ((by rw [hg]; exact Nat.ne_of_lt (blk_lt (g := gb338) (o := .cells #[.int .i64 t333, .bool t334, .string t335, .string t336] 26 (0, 0)) bk) : gb338 ≠ gb344)); have NB344_338 := AM (Ne.symm NB338_344.out); have GW344 := gq (w := w) hg; have GE344 := GW344; replace BK332 := AM (blk_below (g := gb332) (o := .cells #[.int .i64 t327, .bool t328, .string t329, .string t330] 26 (0, 0)) bk hb); replace BK338 := AM (blk_below (g := gb338) (o := .cells #[.int .i64 t333, .bool t334, .string t335, .string t336] 26 (0, 0)) bk hb); replace HB := AM (below_step bl hb); have BK344 := AM (hbox); clear hb hbox hg; refine hK.out _ _ trivial (fun hHeld => ?_); clear hK K; refine norm_ (a' := ?_) ?_ ?_; rotate_left
                     ·show Act.put _ (some 17) _ = _
                      simp only [Act.put, qI, qz, qs, qi, qj]; rfl
                     refine one_ (i := 10) (N := some 86) #[true, true, true, true, true, true, true, true, true, true, true, false, false, false, true, false, false] rfl rfl (one_of HT_.out (by kernel_rfl)) (by decide) (fun K hK => ?_); refine goes_ Tryz.func8 (by kernel_rfl) rfl #[.string ((((js1.extract 0 ((ji22) : Int).toNat) ++ x11_2) ++ (js1.extract ((ji22) : Int).toNat js1.size)) ++ (⟨#[101, 45, 55]⟩ : ByteArray))] (by rfl) rfl rfl (by (try simp only [qT, qC, qN]); first | done | (simp only [hji22]; rfl) | rfl | (simp only [qD, qU]; rfl)) ?_; with_reducible refine (float11_Of.calls k2 ((((js1.extract 0 ((ji22) : Int).toNat) ++ x11_2) ++ (js1.extract ((ji22) : Int).toNat js1.size)) ++ (⟨#[101, 45, 55]⟩ : ByteArray)) t339 t340 t341 t342 true _ ?side1 A35.out).mono ?_; (case side1 => exact Go.Proofs.YtkijneohhilboaaGreatDoor.PKT.Tabs_below HG.out bl); rintro e w64 ⟨rfl, hb⟩; refine ⟨_, rfl, ?_⟩; replace BK332 := AM (blk_below (g := gb332) (o := .cells #[.int .i64 t327, .bool t328, .string t329, .string t330] 26 (0, 0)) bk hb); replace BK338 := AM (blk_below (g := gb338) (o := .cells #[.int .i64 t333, .bool t334, .string t335, .string t336] 26 (0, 0)) bk hb); replace BK344 := AM (blk_below (g := gb344) (o := .cells #[.int .i64 0, .bool false, .string (⟨#[]⟩ : ByteArray), .string (⟨#[]⟩ : ByteArray)] 26 (0, 0)) bk hb); replace HB := AM (below_step bl hb); (try clear hb); refine hK.out _ _ trivial (fun hHeld => ?_); clear hK K; refine norm_ (a' := ?_) ?_ ?_; rotate_left
                     ·show Act.put _ (some 86) _ = _
                      simp only [Act.put, qI, qz, qs, qi, qj]; rfl
                     refine pure_ (i := 11) (N := some 75) (v := ?_) (a' := ?_) #[true, true, true, true, true, true, true, true, true, true, true, true, false, false, true, false, false] rfl rfl (any_of HT_.out (by kernel_rfl)) (fun _ _ _ h => h) (Or.inl ⟨by rfl, ?_⟩) ?_ ?_; rotate_left
                     ·intro w'
                      go_simp; with_reducible rfl
                     rotate_left
                     ·simp only [Act.put, qI, qz, qs, qi, qj]
                      rfl
                     refine pure_ (i := 12) (N := some 87) (v := ?_) (a' := ?_) #[true, true, true, true, true, true, true, true, true, true, true, true, true, false, true, false, false] rfl rfl (any_of HT_.out (by kernel_rfl)) (fun _ _ _ h => h) (Or.inl ⟨by rfl, ?_⟩) ?_ ?_; rotate_left
                     ·intro w'
                      go_simp; with_reducible rfl
                     rotate_left
                     ·simp only [Act.put, qI, qz, qs, qi, qj]
                      rfl
                     refine pure_ (i := 13) (N := some 88) (v := ?_) (a' := ?_) #[true, true, true, true, true, true, true, true, true, true, true, true, true, true, true, false, false] rfl rfl (any_of HT_.out (by kernel_rfl)) (fun _ _ _ h => h) (Or.inl ⟨by rfl, ?_⟩) ?_ ?_; rotate_left
                     ·intro w'
                      go_simp; with_reducible rfl
                     rotate_left
                     ·simp only [Act.put, qI, qz, qs, qi, qj]
                      rfl
                     exact norm_ (by simp only [putAll, Act.put, qI, qz, qs]) (hCont (gb344) _ ⟨bk, bk, bk, GW344.out, GE344.out, NB332_344.out, NB344_332.out, NB338_344.out, NB344_338.out, bl⟩)
                   rintro gb344 w65 ⟨h0_, h1_, h2_, h3_, h4_, h5_, h6_, h7_, h8_, h9_⟩; have n0_ : Aside0 (w65.heap[gb332]? = some (.cells #[.int .i64 t327, .bool t328, .string t329, .string t330] 26 (0, 0))) := ⟨h0_⟩; have n1_ : Aside0 (w65.heap[gb338]? = some (.cells #[.int .i64 t333, .bool t334, .string t335, .string t336] 26 (0, 0))) := ⟨h1_⟩; have n2_ : Aside0 (w65.heap[gb344]? = some (.cells #[.int .i64 0, .bool false, .string (⟨#[]⟩ : ByteArray), .string (⟨#[]⟩ : ByteArray)] 26 (0, 0))) := ⟨h2_⟩; have n3_ : Aside0 (w.heap.size ≤ gb344) := ⟨h3_⟩; have n4_ : Aside0 (w.heap.size ≤ gb344) := ⟨h4_⟩; have n5_ : Aside0 (gb332 ≠ gb344) := ⟨h5_⟩; have n6_ : Aside0 (gb344 ≠ gb332) := ⟨h6_⟩; have n7_ : Aside0 (gb338 ≠ gb344) := ⟨h7_⟩; have n8_ : Aside0 (gb344 ≠ gb338) := ⟨h8_⟩; have n9_ : Aside0 (Below w.heap.size w w65) := ⟨h9_⟩; clear BK332; clear BK338; clear HB; clear h0_ h1_ h2_ h3_ h4_ h5_ h6_ h7_ h8_ h9_; have BK332 := n0_; have BK338 := n1_; have BK344 := n2_; have GW344 := n3_; have GE344 := n4_; have NB332_344 := n5_; have NB344_332 := n6_; have NB338_344 := n7_; have NB344_338 := n8_; have HB := n9_; clear n0_ n1_ n2_ n3_ n4_ n5_ n6_ n7_ n8_ n9_; have hHeld := trivial; refine norm_ (a' := ?_) ?_ ?_; rotate_left
                   ·simp only [putAll, Act.put, qI, qz, qs]
                    rfl
                   refine one_ (i := 15) (N := none) #[true, true, true, true, true, true, true, true, true, true, true, true, true, true, true, true, false] rfl rfl (one_of HT_.out (by kernel_rfl)) (by decide) (fun K hK => ?_); have hs66 : w65.cell? ⟨gb344, 0, none⟩ = some (.int .i64 0) := (blk_cell BK344.out 0).trans rfl; have hfs66 := blk_frozen BK344.out 0; have hns66_0 := NB332_344.out; have hns66_1 := NB338_344.out; have hms66_0 := NB344_332.out; have hms66_1 := NB344_338.out; have hs67 : w65.cell? ⟨gb344, 1, none⟩ = some (.bool false) := (blk_cell BK344.out 1).trans rfl; have hfs67 := blk_frozen BK344.out 1; have hns67_0 := NB332_344.out; have hns67_1 := NB338_344.out; have hms67_0 := NB344_332.out; have hms67_1 := NB344_338.out; have hs68 : w65.cell? ⟨gb344, 2, none⟩ = some (.string (⟨#[]⟩ : ByteArray)) := (blk_cell BK344.out 2).trans rfl; have hfs68 := blk_frozen BK344.out 2; have hns68_0 := NB332_344.out; have hns68_1 := NB338_344.out; have hms68_0 := NB344_332.out; have hms68_1 := NB344_338.out; have hs69 : w65.cell? ⟨gb344, 3, none⟩ = some (.string (⟨#[]⟩ : ByteArray)) := (blk_cell BK344.out 3).trans rfl; have hfs69 := blk_frozen BK344.out 3; have hns69_0 := NB332_344.out; have hns69_1 := NB338_344.out; have hms69_0 := NB344_332.out; have hms69_1 := NB344_338.out; refine skip_ (w1 := ?_) (by rfl) rfl ?_ ?_; rotate_left
                   ·go_simp
                    rfl
                   refine hK.out _ _ trivial (fun hHeld => ?_); clear hK K; refine pure_ (i := 16) (N := some 18) (v := ?_) (a' := ?_) #[true, true, true, true, true, true, true, true, true, true, true, true, true, true, true, true, true] rfl rfl (any_of HT_.out (by kernel_rfl)) (fun _ _ _ h => h) (Or.inl ⟨by rfl, ?_⟩) ?_ ?_; rotate_left
                   ·intro w'
                    go_simp; with_reducible rfl
                   rotate_left
                   ·simp only [Act.put, qI, qz, qs, qi, qj]
                    rfl
                   refine done_ (done_of HT_.out (by kernel_rfl)) ?_; refine Classical.byCases (p := ((t327 == t333 && (t328 == t334 && (t329.toList == t335.toList && (t330.toList == t336.toList)))) = true)) (fun c42 => ?x19) (fun c42 => ?y19)
                   case' x19 =>
                    rw [if_pos c42] at H; have c42b0 : (t327 == t333 && (t328 == t334 && (t329.toList == t335.toList && (t330.toList == t336.toList)))) = true := c42; (try (have c42b1 : decide (t327 = t333 && (t328 == t334 && (t329.toList == t335.toList && (t330.toList == t336.toList)))) = true := by simpa using c42)); (try (have c42b2 : (t327 == t333 && (t328 == t334 && (t329.toList == t335.toList && (t330.toList == t336.toList)))) = true := by simpa using c42)); clear c42; refine Classical.byCases (p := ((t339 == t347 && (t340 == t348 && (t341.toList == t349.toList && (t342.toList == t350.toList)))) = true)) (fun c43 => ?x20) (fun c43 => ?y20)
                    case' x20 =>
                     rw [if_pos c43] at H; have c43b0 : (t339 == t347 && (t340 == t348 && (t341.toList == t349.toList && (t342.toList == t350.toList)))) = true := c43; (try (have c43b1 : decide (t339 = t347 && (t340 == t348 && (t341.toList == t349.toList && (t342.toList == t350.toList)))) = true := by simpa using c43)); (try (have c43b2 : (t339 == t347 && (t340 == t348 && (t341.toList == t349.toList && (t342.toList == t350.toList)))) = true := by simpa using c43)); clear c43; refine Classical.byCases (p := (x11_2.toList = ([] : List UInt8))) (fun c44 => ?x21) (fun c44 => ?y21)
                     case' x21 =>
                      rw [if_pos c44] at H; have c44b0 : (x11_2.toList == ([] : List UInt8)) = true := beq_iff_eq.mpr c44; have c44b1 : (x11_2.toList != ([] : List UInt8)) = false := bne_eq_false_iff_eq.mpr c44; clear c44; by_cases c45 : js1.size + 2 ≤ 9223372036854775807
                      ·as_aux_lemma =>
                       rw [if_pos c45] at H; have c45b0 := eq_true c45; have c45b1 : decide (js1.size + 2 ≤ 9223372036854775807) = true := decide_eq_true c45; try have c45b2 : (9223372036854775807 < js1.size + 2) = False := eq_false (Nat.not_lt.2 c45)
                       try have c45b3 : (9223372036854775807 < js1.size + 2) = False := eq_false (Nat.not_lt.2 (by have z_ := c45; simp only [ByteArray.size_append, ByteArray.size_extract, Nat.min_self] at z_; exact z_))
                       by_cases c46 : (js1 ++ (⟨#[101, 45]⟩ : ByteArray)).size + x11_2.size ≤ 9223372036854775807
                       ·rw [if_pos c46] at H
                        have c46b0 := eq_true c46; have c46b1 : decide ((js1 ++ (⟨#[101, 45]⟩ : ByteArray)).size + x11_2.size ≤ 9223372036854775807) = true := decide_eq_true c46; try have c46b2 : (9223372036854775807 < (js1 ++ (⟨#[101, 45]⟩ : ByteArray)).size + x11_2.size) = False := eq_false (Nat.not_lt.2 c46)
                        try have c46b3 : (9223372036854775807 < js1.size + 2 + x11_2.size) = False := eq_false (Nat.not_lt.2 (by have z_ := c46; simp only [ByteArray.size_append, ByteArray.size_extract, Nat.min_self] at z_; exact z_))
                        by_cases c47 : ((js1 ++ (⟨#[101, 45]⟩ : ByteArray)) ++ x11_2).size + 1 ≤ 9223372036854775807
                        ·rw [if_pos c47] at H
                         have c47b0 := eq_true c47; have c47b1 : decide (((js1 ++ (⟨#[101, 45]⟩ : ByteArray)) ++ x11_2).size + 1 ≤ 9223372036854775807) = true := decide_eq_true c47; try have c47b2 : (9223372036854775807 < ((js1 ++ (⟨#[101, 45]⟩ : ByteArray)) ++ x11_2).size + 1) = False := eq_false (Nat.not_lt.2 c47)
                         try have c47b3 : (9223372036854775807 < js1.size + 2 + x11_2.size + 1) = False := eq_false (Nat.not_lt.2 (by have z_ := c47; simp only [ByteArray.size_append, ByteArray.size_extract, Nat.min_self] at z_; exact z_))
                         replace H := Option.bind_eq_some_iff.mp H; obtain ⟨t353, A480, H⟩ := H; replace H : (some (!t353)) = some r := H; have A48 := AM A480; clear A480; obtain rfl := Option.some.inj H
                         try go_wp2_with (first | ((with_reducible refine gate_callee (f := 12) rfl ?_); refine goesL_ (some 91) rfl rfl Tryz.func12 (by kernel_rfl) rfl #[.string a0] rfl am ?_; (with_reducible refine (targumlaw7_digits.calls k2 a0 t345 _ A36.out).mono ?_); rintro e w70 ⟨rfl, hb⟩; refine ⟨_, rfl, ?_⟩; replace BK332 := AM (blk_below (g := gb332) (o := .cells #[.int .i64 t327, .bool t328, .string t329, .string t330] 26 (0, 0)) bk hb); replace BK338 := AM (blk_below (g := gb338) (o := .cells #[.int .i64 t333, .bool t334, .string t335, .string t336] 26 (0, 0)) bk hb); replace BK344 := AM (blk_below (g := gb344) (o := .cells #[.int .i64 t339, .bool t340, .string t341, .string t342] 26 (0, 0)) bk hb); replace HB := AM (below_step bl hb); (try clear hb)) | ((with_reducible refine gate_callee (f := 12) rfl ?_); refine goesL_ (some 93) rfl rfl Tryz.func12 (by kernel_rfl) rfl #[.string a1] rfl am ?_; (with_reducible refine (targumlaw7_digits.calls k2 a1 t346 _ A37.out).mono ?_); rintro e w71 ⟨rfl, hb⟩; refine ⟨_, rfl, ?_⟩; replace BK332 := AM (blk_below (g := gb332) (o := .cells #[.int .i64 t327, .bool t328, .string t329, .string t330] 26 (0, 0)) bk hb); replace BK338 := AM (blk_below (g := gb338) (o := .cells #[.int .i64 t333, .bool t334, .string t335, .string t336] 26 (0, 0)) bk hb); replace BK344 := AM (blk_below (g := gb344) (o := .cells #[.int .i64 t339, .bool t340, .string t341, .string t342] 26 (0, 0)) bk hb); replace HB := AM (below_step bl hb); (try clear hb)) | ((with_reducible refine gate_callee (f := 14) rfl ?_); refine goesL_ (some 94) rfl rfl Tryz.func14 (by kernel_rfl) rfl #[.bool false, .string t345, .string t346, .string (⟨#[45, 55]⟩ : ByteArray)] rfl am ?_; (with_reducible refine (targumref4_Make.calls k2 false t345 t346 (⟨#[45, 55]⟩ : ByteArray) t347 t348 t349 t350 t351 _ A38.out).mono ?_); rintro e w72 ⟨rfl, hb⟩; refine ⟨_, rfl, ?_⟩; replace BK332 := AM (blk_below (g := gb332) (o := .cells #[.int .i64 t327, .bool t328, .string t329, .string t330] 26 (0, 0)) bk hb); replace BK338 := AM (blk_below (g := gb338) (o := .cells #[.int .i64 t333, .bool t334, .string t335, .string t336] 26 (0, 0)) bk hb); replace BK344 := AM (blk_below (g := gb344) (o := .cells #[.int .i64 t339, .bool t340, .string t341, .string t342] 26 (0, 0)) bk hb); replace HB := AM (below_step bl hb); (try clear hb)) | ((with_reducible refine gate_dst (N := 19) rfl ?_); (try (refine gate_guard (by rfl) ?_; dsimp only)); refine box_event ?hg (N := 19) ?hd (cs := #[.int .i64 0, .bool false, .string (⟨#[]⟩ : ByteArray), .string (⟨#[]⟩ : ByteArray)]) (t := 26) ?hr ?_; (case hd => rfl); (case hg => rfl); (case hr => first | (go_simp; done) | (go_simp; rfl)); intro gb352 hg w73 hbox hb; have NB332_352 := AM ((by rw [hg]; exact Nat.ne_of_lt (blk_lt (g := gb332) (o := .cells #[.int .i64 t327, .bool t328, .string t329, .string t330] 26 (0, 0)) bk) : gb332 ≠ gb352)); have NB352_332 := AM (Ne.symm NB332_352.out); have NB338_352 := AM ((by rw [hg]; exact Nat.ne_of_lt (blk_lt (g := gb338) (o := .cells #[.int .i64 t333, .bool t334, .string t335, .string t336] 26 (0, 0)) bk) : gb338 ≠ gb352)); have NB352_338 := AM (Ne.symm NB338_352.out); have NB344_352 := AM ((by rw [hg]; exact Nat.ne_of_lt (blk_lt (g := gb344) (o := .cells #[.int .i64 t339, .bool t340, .string t341, .string t342] 26 (0, 0)) bk) : gb344 ≠ gb352)); have NB352_344 := AM (Ne.symm NB344_352.out); have GW352 := gq (w := w) hg; have GE352 := GW352; replace BK332 := AM (blk_below (g := gb332) (o := .cells #[.int .i64 t327, .bool t328, .string t329, .string t330] 26 (0, 0)) bk hb); replace BK338 := AM (blk_below (g := gb338) (o := .cells #[.int .i64 t333, .bool t334, .string t335, .string t336] 26 (0, 0)) bk hb); replace BK344 := AM (blk_below (g := gb344) (o := .cells #[.int .i64 t339, .bool t340, .string t341, .string t342] 26 (0, 0)) bk hb); replace HB := AM (below_step bl hb); have BK352 := AM (hbox); clear hb hbox hg; have hnb74 := NB352_332.out; have hnc74 := NB332_352.out; have hnb75 := NB352_338.out; have hnc75 := NB338_352.out; have hnb76 := NB352_344.out; have hnc76 := NB344_352.out; obtain ⟨hcz77_0, hcz77_1, hcz77_2, hcz77_3, hfz77_0, hfz77_1, hfz77_2, hfz77_3⟩ := cz4 BK352.out; have hnb78 := NB332_338.out; have hnc78 := NB338_332.out; have hnb79 := NB332_344.out; have hnc79 := NB344_332.out; obtain ⟨hcz80_0, hcz80_1, hcz80_2, hcz80_3, hfz80_0, hfz80_1, hfz80_2, hfz80_3⟩ := cz4 BK332.out; have hnb81 := NB338_344.out; have hnc81 := NB344_338.out; obtain ⟨hcz82_0, hcz82_1, hcz82_2, hcz82_3, hfz82_0, hfz82_1, hfz82_2, hfz82_3⟩ := cz4 BK338.out; obtain ⟨hcz83_0, hcz83_1, hcz83_2, hcz83_3, hfz83_0, hfz83_1, hfz83_2, hfz83_3⟩ := cz4 BK344.out) | (go_at_call 10; (with_reducible refine (float11_Is.calls k2 (((js1 ++ (⟨#[101, 45]⟩ : ByteArray)) ++ x11_2) ++ (⟨#[95]⟩ : ByteArray)) t353 _ A48.out).mono ?_); rintro e w84 ⟨rfl, hb⟩; replace BK332 := AM (blk_below (g := gb332) (o := .cells #[.int .i64 t327, .bool t328, .string t329, .string t330] 26 (0, 0)) bk hb); replace BK338 := AM (blk_below (g := gb338) (o := .cells #[.int .i64 t333, .bool t334, .string t335, .string t336] 26 (0, 0)) bk hb); replace BK344 := AM (blk_below (g := gb344) (o := .cells #[.int .i64 t339, .bool t340, .string t341, .string t342] 26 (0, 0)) bk hb); replace BK352 := AM (blk_below (g := gb352) (o := .cells #[.int .i64 t347, .bool t348, .string t349, .string t350] 26 (0, 0)) bk hb); replace HB := AM (below_step bl hb); (try clear hb)))
                         go_ret
                         exact ⟨by first | rfl | (simp [errW_none, errW_some] <;> rfl) | (simp only [← hji22]; first | rfl | (simp [errW_none, errW_some] <;> rfl)) | (simp [*, errW_none, errW_some] <;> rfl), bl⟩
                        ·rw [if_neg c47] at H
                         exact absurd H (by simp)
                       ·rw [if_neg c46] at H
                        exact absurd H (by simp)
                      ·rw [if_neg c45] at H
                       exact absurd H (by simp)
                     case' y21 =>
                      rw [if_neg c44] at H; have c44b0 : (x11_2.toList == ([] : List UInt8)) = false := beq_eq_false_iff_ne.mpr c44; have c44b1 : (x11_2.toList != ([] : List UInt8)) = true := bne_iff_ne.mpr c44; refine Classical.byCases (p := (x11_2.size + js1.size ≤ 9223372036854775807)) (fun c85 => ?x22) (fun c85 => ?y22)
                      case' x22 =>
                       rw [if_pos c85] at H; have c85b0 := eq_true c85; have c85b1 : decide (x11_2.size + js1.size ≤ 9223372036854775807) = true := decide_eq_true c85; try have c85b2 : (9223372036854775807 < x11_2.size + js1.size) = False := eq_false (Nat.not_lt.2 c85)
                       try have c85b3 : (9223372036854775807 < x11_2.size + (js1.size)) = False := eq_false (Nat.not_lt.2 (by have z_ := c85; simp only [ByteArray.size_append, ByteArray.size_extract, Nat.min_self] at z_; exact z_))
                       replace H := Option.bind_eq_some_iff.mp H; obtain ⟨t354, A860, H⟩ := H; replace H : (if t354 = true then (some false) else (if js1.size + 2 ≤ 9223372036854775807 then (if (js1 ++ (⟨#[101, 45]⟩ : ByteArray)).size + x11_2.size ≤ 9223372036854775807 then (if ((js1 ++ (⟨#[101, 45]⟩ : ByteArray)) ++ x11_2).size + 1 ≤ 9223372036854775807 then ((float11_Is.f k2 (((js1 ++ (⟨#[101, 45]⟩ : ByteArray)) ++ x11_2) ++ (⟨#[95]⟩ : ByteArray))).bind fun t355 => (some (!t355))) else (none)) else (none)) else (none))) = some r := H; have A86 := AM A860; clear A860; refine Classical.byCases (p := (t354 = true)) (fun c87 => ?x23) (fun c87 => ?y23)
                       case' x23 =>
                        subst c87; have H1 : (some false) = some r := by rw [if_pos rfl] at H; exact H
                        clear H; have H := H1; clear H1; obtain rfl := Option.some.inj H; skip
                       case' y23 =>
                        replace c87 := Bool.eq_false_iff.mpr c87; subst c87; have H1 : (if js1.size + 2 ≤ 9223372036854775807 then (if (js1 ++ (⟨#[101, 45]⟩ : ByteArray)).size + x11_2.size ≤ 9223372036854775807 then (if ((js1 ++ (⟨#[101, 45]⟩ : ByteArray)) ++ x11_2).size + 1 ≤ 9223372036854775807 then ((float11_Is.f k2 (((js1 ++ (⟨#[101, 45]⟩ : ByteArray)) ++ x11_2) ++ (⟨#[95]⟩ : ByteArray))).bind fun t355 => (some (!t355))) else (none)) else (none)) else (none)) = some r := by rw [if_neg (show ¬ (false = true) by decide)] at H; exact H
                        clear H; have H := H1; clear H1; refine Classical.byCases (p := (js1.size + 2 ≤ 9223372036854775807)) (fun c124 => ?x24) (fun c124 => ?y24)
                        case' x24 =>
                         rw [if_pos c124] at H; have c124b0 := eq_true c124; have c124b1 : decide (js1.size + 2 ≤ 9223372036854775807) = true := decide_eq_true c124; try have c124b2 : (9223372036854775807 < js1.size + 2) = False := eq_false (Nat.not_lt.2 c124)
                         try have c124b3 : (9223372036854775807 < js1.size + 2) = False := eq_false (Nat.not_lt.2 (by have z_ := c124; simp only [ByteArray.size_append, ByteArray.size_extract, Nat.min_self] at z_; exact z_))
                         refine Classical.byCases (p := ((js1 ++ (⟨#[101, 45]⟩ : ByteArray)).size + x11_2.size ≤ 9223372036854775807)) (fun c125 => ?x25) (fun c125 => ?y25)
                         case' x25 =>
                          rw [if_pos c125] at H; have c125b0 := eq_true c125; have c125b1 : decide ((js1 ++ (⟨#[101, 45]⟩ : ByteArray)).size + x11_2.size ≤ 9223372036854775807) = true := decide_eq_true c125; try have c125b2 : (9223372036854775807 < (js1 ++ (⟨#[101, 45]⟩ : ByteArray)).size + x11_2.size) = False := eq_false (Nat.not_lt.2 c125)
                          try have c125b3 : (9223372036854775807 < js1.size + 2 + x11_2.size) = False := eq_false (Nat.not_lt.2 (by have z_ := c125; simp only [ByteArray.size_append, ByteArray.size_extract, Nat.min_self] at z_; exact z_))
                          refine Classical.byCases (p := (((js1 ++ (⟨#[101, 45]⟩ : ByteArray)) ++ x11_2).size + 1 ≤ 9223372036854775807)) (fun c126 => ?x26) (fun c126 => ?y26)
                          case' x26 =>
                           rw [if_pos c126] at H; have c126b0 := eq_true c126; have c126b1 : decide (((js1 ++ (⟨#[101, 45]⟩ : ByteArray)) ++ x11_2).size + 1 ≤ 9223372036854775807) = true := decide_eq_true c126; try have c126b2 : (9223372036854775807 < ((js1 ++ (⟨#[101, 45]⟩ : ByteArray)) ++ x11_2).size + 1) = False := eq_false (Nat.not_lt.2 c126)
                           try have c126b3 : (9223372036854775807 < js1.size + 2 + x11_2.size + 1) = False := eq_false (Nat.not_lt.2 (by have z_ := c126; simp only [ByteArray.size_append, ByteArray.size_extract, Nat.min_self] at z_; exact z_))
                           replace H := Option.bind_eq_some_iff.mp H; obtain ⟨t355, A1270, H⟩ := H; replace H : (some (!t355)) = some r := H; have A127 := AM A1270; clear A1270; obtain rfl := Option.some.inj H; skip
                          case' y26 =>
                           rw [if_neg c126] at H; exact absurd H (by simp)
                         case' y25 =>
                          rw [if_neg c125] at H; exact absurd H (by simp)
                        case' y24 =>
                         rw [if_neg c124] at H; exact absurd H (by simp)
                      case' y22 =>
                       rw [if_neg c85] at H; exact absurd H (by simp)
                    case' y20 =>
                     rw [if_neg c43] at H; have c43b0 : (t339 == t347 && (t340 == t348 && (t341.toList == t349.toList && (t342.toList == t350.toList)))) = false := by simpa using c43
                     (try (have c43b1 : decide (t339 = t347 && (t340 == t348 && (t341.toList == t349.toList && (t342.toList == t350.toList)))) = false := by simpa using c43)); (try (have c43b2 : (t339 == t347 && (t340 == t348 && (t341.toList == t349.toList && (t342.toList == t350.toList)))) = false := by simpa using c43)); (try (have c43b3 : ¬ (t339 = t347 && (t340 == t348 && (t341.toList == t349.toList && (t342.toList == t350.toList)))) := by simpa using c43)); clear c43; obtain rfl := Option.some.inj H; skip
                   case' y19 =>
                    rw [if_neg c42] at H; have c42b0 : (t327 == t333 && (t328 == t334 && (t329.toList == t335.toList && (t330.toList == t336.toList)))) = false := by simpa using c42
                    (try (have c42b1 : decide (t327 = t333 && (t328 == t334 && (t329.toList == t335.toList && (t330.toList == t336.toList)))) = false := by simpa using c42)); (try (have c42b2 : (t327 == t333 && (t328 == t334 && (t329.toList == t335.toList && (t330.toList == t336.toList)))) = false := by simpa using c42)); (try (have c42b3 : ¬ (t327 = t333 && (t328 == t334 && (t329.toList == t335.toList && (t330.toList == t336.toList)))) := by simpa using c42)); clear c42; obtain rfl := Option.some.inj H; skip
                  case' y18 =>
                   replace c41 := Bool.eq_false_iff.mpr c41; subst c41; have H1 : (some false) = some r := by rw [if_neg (show ¬ (false = true) by decide)] at H; exact H
                   clear H; have H := H1; clear H1; obtain rfl := Option.some.inj H; refine start_ (n := 16) (S := fun w' => True) (ds := []) #[false, false, false, false, false, false, false, false, false, false, false, false, false, false, false, false] (by kernel_rfl) rfl rfl trivial (fun hHeld => ?_); refine with_tabW targumlaw7_Float11Gaps.tab13 targumlaw7_Float11Gaps.bits13 (fun HT_ HW_ => ?_); generalize w52.drew = w238 at BK332 HB hHeld ⊢; refine pure_ (i := 0) (N := some 63) (v := ?_) (a' := ?_) #[true, false, false, false, false, false, false, false, false, false, false, false, false, false, false, false] rfl rfl (any_of HT_.out (by kernel_rfl)) (fun _ _ _ h => h) (Or.inl ⟨by rfl, ?_⟩) ?_ ?_; rotate_left
                   ·intro w'
                    go_simp; with_reducible rfl
                   rotate_left
                   ·simp only [Act.put, qI, qz, qs, qi, qj]
                    rfl
                   refine pure_ (i := 1) (N := some 64) (v := ?_) (a' := ?_) #[true, true, false, false, false, false, false, false, false, false, false, false, false, false, false, false] rfl rfl (any_of HT_.out (by kernel_rfl)) (fun _ _ _ h => h) (Or.inl ⟨by rfl, ?_⟩) ?_ ?_; rotate_left
                   ·intro w'
                    go_simp; with_reducible rfl
                   rotate_left
                   ·simp only [Act.put, qI, qz, qs, qi, qj]
                    rfl
                   refine pure_ (i := 2) (N := some 65) (v := ?_) (a' := ?_) #[true, true, true, false, false, false, false, false, false, false, false, false, false, false, false, false] rfl rfl (any_of HT_.out (by kernel_rfl)) (fun _ _ _ h => h) (Or.inl ⟨by rfl, ?_⟩) ?_ ?_; rotate_left
                   ·intro w'
                    go_simp; with_reducible rfl
                   rotate_left
                   ·simp only [Act.put, qI, qz, qs, qi, qj]
                    rfl
                   refine pure_ (i := 3) (N := some 66) (v := ?_) (a' := ?_) #[true, true, true, true, false, false, false, false, false, false, false, false, false, false, false, false] rfl rfl (any_of HT_.out (by kernel_rfl)) (fun _ _ _ h => h) (Or.inl ⟨by rfl, ?_⟩) ?_ ?_; rotate_left
                   ·intro w'
                    go_simp; with_reducible rfl
                   rotate_left
                   ·simp only [Act.put, qI, qz, qs, qi, qj]
                    rfl
                   refine pure_ (i := 4) (N := some 67) (v := ?_) (a' := ?_) #[true, true, true, true, true, false, false, false, false, false, false, false, false, false, false, false] rfl rfl (any_of HT_.out (by kernel_rfl)) (fun _ _ _ h => h) (Or.inl ⟨by rfl, ?_⟩) ?_ ?_; rotate_left
                   ·intro w'
                    go_simp; with_reducible rfl
                   rotate_left
                   ·simp only [Act.put, qI, qz, qs, qi, qj]
                    rfl
                   refine pure_ (i := 5) (N := some 68) (v := ?_) (a' := ?_) #[true, true, true, true, true, true, false, false, false, false, false, false, false, false, false, false] rfl rfl (any_of HT_.out (by kernel_rfl)) (fun _ _ _ h => h) (Or.inl ⟨by rfl, ?_⟩) ?_ ?_; rotate_left
                   ·intro w'
                    go_simp; with_reducible rfl
                   rotate_left
                   ·simp only [Act.put, qI, qz, qs, qi, qj]
                    rfl
                   refine pure_ (i := 6) (N := some 69) (v := ?_) (a' := ?_) #[true, true, true, true, true, true, true, false, false, false, false, false, false, false, false, false] rfl rfl (any_of HT_.out (by kernel_rfl)) (fun _ _ _ h => h) (Or.inl ⟨by rfl, ?_⟩) ?_ ?_; rotate_left
                   ·intro w'
                    go_simp; with_reducible rfl
                   rotate_left
                   ·simp only [Act.put, qI, qz, qs, qi, qj]
                    rfl
                   refine pure_ (i := 7) (N := some 70) (v := ?_) (a' := ?_) #[true, true, true, true, true, true, true, true, false, false, false, false, false, false, false, false] rfl rfl (any_of HT_.out (by kernel_rfl)) (fun _ _ _ h => h) (Or.inl ⟨by rfl, ?_⟩) ?_ ?_; rotate_left
                   ·intro w'
                    go_simp; with_reducible rfl
                   rotate_left
                   ·simp only [Act.put, qI, qz, qs, qi, qj]
                    rfl
                   refine pure_ (i := 8) (N := some 71) (v := ?_) (a' := ?_) #[true, true, true, true, true, true, true, true, true, false, false, false, false, false, false, false] rfl rfl (any_of HT_.out (by kernel_rfl)) (fun _ _ _ h => h) (Or.inl ⟨by rfl, ?_⟩) ?_ ?_; rotate_left
                   ·intro w'
                    go_simp; with_reducible rfl
                   rotate_left
                   ·simp only [Act.put, qI, qz, qs, qi, qj]
                    rfl
                   refine join_ (σ := Nat) 2 #[true, true, true, true, true, true, true, true, true, true, true, true, true, true, false, false] (fun s_ => [(72, .tuple #[.agg #[.int .i64 t333, .bool t334, .string t335, .string t336], .bool true]), (15, .pointer (some ⟨s_, 0, none⟩)), (62, .tuple #[.agg #[.int .i64 t333, .bool t334, .string t335, .string t336], .bool true]), (73, .agg #[.int .i64 t333, .bool t334, .string t335, .string t336]), (74, .bool true)]) (fun s_ w' => (w'.heap[gb332]? = some (.cells #[.int .i64 t327, .bool t328, .string t329, .string t330] 26 (0, 0))) ∧ (w'.heap[s_]? = some (.cells #[.int .i64 0, .bool false, .string (⟨#[]⟩ : ByteArray), .string (⟨#[]⟩ : ByteArray)] 26 (0, 0))) ∧ (w.heap.size ≤ s_) ∧ (w.heap.size ≤ s_) ∧ (gb332 ≠ s_) ∧ (s_ ≠ gb332) ∧ (Below w.heap.size w w')) ?_ ?_; rotate_left
                   ·as_aux_lemma =>
                    intro hCont; refine two_ (i := 9) (j := 13) (Ni := some 72) (Nj := some 15) #[true, true, true, true, true, true, true, true, true, true, false, false, false, false, false, false] #[true, true, true, true, true, true, true, true, true, false, false, false, false, true, false, false] rfl rfl rfl rfl (two_of HT_.out (by kernel_rfl)) (by decide) (by decide) (fun K hK => ?_) (fun K hK => ?_)
                    ·skip
                     refine goes_ Tryz.func8 (by kernel_rfl) rfl #[.string (((js1.extract 0 ((ji22) : Int).toNat) ++ x11_2) ++ (js1.extract ((ji22) : Int).toNat js1.size))] (by rfl) rfl rfl (by (try simp only [qT, qC, qN]); first | done | (simp only [hji22]; rfl) | rfl | (simp only [qD, qU]; rfl)) ?_; with_reducible refine (float11_Of.calls k2 (((js1.extract 0 ((ji22) : Int).toNat) ++ x11_2) ++ (js1.extract ((ji22) : Int).toNat js1.size)) t333 t334 t335 t336 true _ ?side1 A29.out).mono ?_; (case side1 => exact Go.Proofs.YtkijneohhilboaaGreatDoor.PKT.Tabs_below HG.out bl); rintro e w239 ⟨rfl, hb⟩; refine ⟨_, rfl, ?_⟩; replace BK332 := AM (blk_below (g := gb332) (o := .cells #[.int .i64 t327, .bool t328, .string t329, .string t330] 26 (0, 0)) bk hb); replace HB := AM (below_step bl hb); (try clear hb); refine hK.out _ _ trivial (fun hHeld => ?_); clear hK K; refine norm_ (a' := ?_) ?_ ?_; rotate_left
                     ·show Act.put _ (some 72) _ = _
                      simp only [Act.put, qI, qz, qs, qi, qj]; rfl
                     refine pure_ (i := 10) (N := some 62) (v := ?_) (a' := ?_) #[true, true, true, true, true, true, true, true, true, true, true, false, false, false, false, false] rfl rfl (any_of HT_.out (by kernel_rfl)) (fun _ _ _ h => h) (Or.inl ⟨by rfl, ?_⟩) ?_ ?_; rotate_left
                     ·intro w'
                      go_simp; with_reducible rfl
                     rotate_left
                     ·simp only [Act.put, qI, qz, qs, qi, qj]
                      rfl
                     refine pure_ (i := 11) (N := some 73) (v := ?_) (a' := ?_) #[true, true, true, true, true, true, true, true, true, true, true, true, false, false, false, false] rfl rfl (any_of HT_.out (by kernel_rfl)) (fun _ _ _ h => h) (Or.inl ⟨by rfl, ?_⟩) ?_ ?_; rotate_left
                     ·intro w'
                      go_simp; with_reducible rfl
                     rotate_left
                     ·simp only [Act.put, qI, qz, qs, qi, qj]
                      rfl
                     refine pure_ (i := 12) (N := some 74) (v := ?_) (a' := ?_) #[true, true, true, true, true, true, true, true, true, true, true, true, true, false, false, false] rfl rfl (any_of HT_.out (by kernel_rfl)) (fun _ _ _ h => h) (Or.inl ⟨by rfl, ?_⟩) ?_ ?_; rotate_left
                     ·intro w'
                      go_simp; with_reducible rfl
                     rotate_left
                     ·simp only [Act.put, qI, qz, qs, qi, qj]
                      rfl
                     refine one_ (i := 13) (N := some 15) #[true, true, true, true, true, true, true, true, true, true, true, true, true, true, false, false] rfl rfl (one_of HT_.out (by kernel_rfl)) (by decide) (fun K hK => ?_); refine box_step ?hg (N := 15) ?hd (cs := #[.int .i64 0, .bool false, .string (⟨#[]⟩ : ByteArray), .string (⟨#[]⟩ : ByteArray)]) (t := 26) ?hr ?_; (case hd => rfl); (case hg => rfl); (case hr => first | (go_simp; done) | (go_simp; rfl)); intro gb338 hg w240 hbox hb; have NB332_338 := AM ((by rw [hg]; exact Nat.ne_of_lt (blk_lt (g := gb332) (o := .cells #[.int .i64 t327, .bool t328, .string t329, .string t330] 26 (0, 0)) bk) : gb332 ≠ gb338)); have NB338_332 := AM (Ne.symm NB332_338.out); have GW338 := gq (w := w) hg; have GE338 := GW338; replace BK332 := AM (blk_below (g := gb332) (o := .cells #[.int .i64 t327, .bool t328, .string t329, .string t330] 26 (0, 0)) bk hb); replace HB := AM (below_step bl hb); have BK338 := AM (hbox); clear hb hbox hg; refine hK.out _ _ trivial (fun hHeld => ?_); clear hK K; refine norm_ (a' := ?_) ?_ ?_; rotate_left
                     ·show Act.put _ (some 15) _ = _
                      simp only [Act.put, qI, qz, qs, qi, qj]; rfl
                     exact norm_ (by simp only [putAll, Act.put, qI, qz, qs]) (hCont (gb338) _ ⟨bk, bk, GW338.out, GE338.out, NB332_338.out, NB338_332.out, bl⟩)
                    ·skip
                     refine box_step ?hg (N := 15) ?hd (cs := #[.int .i64 0, .bool false, .string (⟨#[]⟩ : ByteArray), .string (⟨#[]⟩ : ByteArray)]) (t := 26) ?hr ?_; (case hd => rfl); (case hg => rfl); (case hr => first | (go_simp; done) | (go_simp; rfl)); intro gb338 hg w239 hbox hb; have NB332_338 := AM ((by rw [hg]; exact Nat.ne_of_lt (blk_lt (g := gb332) (o := .cells #[.int .i64 t327, .bool t328, .string t329, .string t330] 26 (0, 0)) bk) : gb332 ≠ gb338)); have NB338_332 := AM (Ne.symm NB332_338.out); have GW338 := gq (w := w) hg; have GE338 := GW338; replace BK332 := AM (blk_below (g := gb332) (o := .cells #[.int .i64 t327, .bool t328, .string t329, .string t330] 26 (0, 0)) bk hb); replace HB := AM (below_step bl hb); have BK338 := AM (hbox); clear hb hbox hg; refine hK.out _ _ trivial (fun hHeld => ?_); clear hK K; refine norm_ (a' := ?_) ?_ ?_; rotate_left
                     ·show Act.put _ (some 15) _ = _
                      simp only [Act.put, qI, qz, qs, qi, qj]; rfl
                     refine one_ (i := 9) (N := some 72) #[true, true, true, true, true, true, true, true, true, true, false, false, false, true, false, false] rfl rfl (one_of HT_.out (by kernel_rfl)) (by decide) (fun K hK => ?_); refine goes_ Tryz.func8 (by kernel_rfl) rfl #[.string (((js1.extract 0 ((ji22) : Int).toNat) ++ x11_2) ++ (js1.extract ((ji22) : Int).toNat js1.size))] (by rfl) rfl rfl (by (try simp only [qT, qC, qN]); first | done | (simp only [hji22]; rfl) | rfl | (simp only [qD, qU]; rfl)) ?_; with_reducible refine (float11_Of.calls k2 (((js1.extract 0 ((ji22) : Int).toNat) ++ x11_2) ++ (js1.extract ((ji22) : Int).toNat js1.size)) t333 t334 t335 t336 true _ ?side1 A29.out).mono ?_; (case side1 => exact Go.Proofs.YtkijneohhilboaaGreatDoor.PKT.Tabs_below HG.out bl); rintro e w240 ⟨rfl, hb⟩; refine ⟨_, rfl, ?_⟩; replace BK332 := AM (blk_below (g := gb332) (o := .cells #[.int .i64 t327, .bool t328, .string t329, .string t330] 26 (0, 0)) bk hb); replace BK338 := AM (blk_below (g := gb338) (o := .cells #[.int .i64 0, .bool false, .string (⟨#[]⟩ : ByteArray), .string (⟨#[]⟩ : ByteArray)] 26 (0, 0)) bk hb); replace HB := AM (below_step bl hb); (try clear hb); refine hK.out _ _ trivial (fun hHeld => ?_); clear hK K; refine norm_ (a' := ?_) ?_ ?_; rotate_left
                     ·show Act.put _ (some 72) _ = _
                      simp only [Act.put, qI, qz, qs, qi, qj]; rfl
                     refine pure_ (i := 10) (N := some 62) (v := ?_) (a' := ?_) #[true, true, true, true, true, true, true, true, true, true, true, false, false, true, false, false] rfl rfl (any_of HT_.out (by kernel_rfl)) (fun _ _ _ h => h) (Or.inl ⟨by rfl, ?_⟩) ?_ ?_; rotate_left
                     ·intro w'
                      go_simp; with_reducible rfl
                     rotate_left
                     ·simp only [Act.put, qI, qz, qs, qi, qj]
                      rfl
                     refine pure_ (i := 11) (N := some 73) (v := ?_) (a' := ?_) #[true, true, true, true, true, true, true, true, true, true, true, true, false, true, false, false] rfl rfl (any_of HT_.out (by kernel_rfl)) (fun _ _ _ h => h) (Or.inl ⟨by rfl, ?_⟩) ?_ ?_; rotate_left
                     ·intro w'
                      go_simp; with_reducible rfl
                     rotate_left
                     ·simp only [Act.put, qI, qz, qs, qi, qj]
                      rfl
                     refine pure_ (i := 12) (N := some 74) (v := ?_) (a' := ?_) #[true, true, true, true, true, true, true, true, true, true, true, true, true, true, false, false] rfl rfl (any_of HT_.out (by kernel_rfl)) (fun _ _ _ h => h) (Or.inl ⟨by rfl, ?_⟩) ?_ ?_; rotate_left
                     ·intro w'
                      go_simp; with_reducible rfl
                     rotate_left
                     ·simp only [Act.put, qI, qz, qs, qi, qj]
                      rfl
                     exact norm_ (by simp only [putAll, Act.put, qI, qz, qs]) (hCont (gb338) _ ⟨bk, bk, GW338.out, GE338.out, NB332_338.out, NB338_332.out, bl⟩)
                   rintro gb338 w241 ⟨h0_, h1_, h2_, h3_, h4_, h5_, h6_⟩; have n0_ : Aside0 (w241.heap[gb332]? = some (.cells #[.int .i64 t327, .bool t328, .string t329, .string t330] 26 (0, 0))) := ⟨h0_⟩; have n1_ : Aside0 (w241.heap[gb338]? = some (.cells #[.int .i64 0, .bool false, .string (⟨#[]⟩ : ByteArray), .string (⟨#[]⟩ : ByteArray)] 26 (0, 0))) := ⟨h1_⟩; have n2_ : Aside0 (w.heap.size ≤ gb338) := ⟨h2_⟩; have n3_ : Aside0 (w.heap.size ≤ gb338) := ⟨h3_⟩; have n4_ : Aside0 (gb332 ≠ gb338) := ⟨h4_⟩; have n5_ : Aside0 (gb338 ≠ gb332) := ⟨h5_⟩; have n6_ : Aside0 (Below w.heap.size w w241) := ⟨h6_⟩; clear BK332; clear HB; clear h0_ h1_ h2_ h3_ h4_ h5_ h6_; have BK332 := n0_; have BK338 := n1_; have GW338 := n2_; have GE338 := n3_; have NB332_338 := n4_; have NB338_332 := n5_; have HB := n6_; clear n0_ n1_ n2_ n3_ n4_ n5_ n6_; have hHeld := trivial; refine norm_ (a' := ?_) ?_ ?_; rotate_left
                   ·simp only [putAll, Act.put, qI, qz, qs]
                    rfl
                   refine one_ (i := 14) (N := none) #[true, true, true, true, true, true, true, true, true, true, true, true, true, true, true, false] rfl rfl (one_of HT_.out (by kernel_rfl)) (by decide) (fun K hK => ?_); have hs242 : w241.cell? ⟨gb338, 0, none⟩ = some (.int .i64 0) := (blk_cell BK338.out 0).trans rfl; have hfs242 := blk_frozen BK338.out 0; have hns242_0 := NB332_338.out; have hms242_0 := NB338_332.out; have hs243 : w241.cell? ⟨gb338, 1, none⟩ = some (.bool false) := (blk_cell BK338.out 1).trans rfl; have hfs243 := blk_frozen BK338.out 1; have hns243_0 := NB332_338.out; have hms243_0 := NB338_332.out; have hs244 : w241.cell? ⟨gb338, 2, none⟩ = some (.string (⟨#[]⟩ : ByteArray)) := (blk_cell BK338.out 2).trans rfl; have hfs244 := blk_frozen BK338.out 2; have hns244_0 := NB332_338.out; have hms244_0 := NB338_332.out; have hs245 : w241.cell? ⟨gb338, 3, none⟩ = some (.string (⟨#[]⟩ : ByteArray)) := (blk_cell BK338.out 3).trans rfl; have hfs245 := blk_frozen BK338.out 3; have hns245_0 := NB332_338.out; have hms245_0 := NB338_332.out; refine skip_ (w1 := ?_) (by rfl) rfl ?_ ?_; rotate_left
                   ·go_simp
                    rfl
                   refine hK.out _ _ trivial (fun hHeld => ?_); clear hK K; refine pure_ (i := 15) (N := some 16) (v := ?_) (a' := ?_) #[true, true, true, true, true, true, true, true, true, true, true, true, true, true, true, true] rfl rfl (any_of HT_.out (by kernel_rfl)) (fun _ _ _ h => h) (Or.inl ⟨by rfl, ?_⟩) ?_ ?_; rotate_left
                   ·intro w'
                    go_simp; with_reducible rfl
                   rotate_left
                   ·simp only [Act.put, qI, qz, qs, qi, qj]
                    rfl
                   refine done_ (done_of HT_.out (by kernel_rfl)) ?_; try go_wp2
                   have n0_ : Aside0 (((((w241.setCell ⟨gb338, 0, none⟩ (.int .i64 t333)).setCell ⟨gb338, 1, none⟩ (.bool t334)).setCell ⟨gb338, 2, none⟩ (.string t335)).setCell ⟨gb338, 3, none⟩ (.string t336)).heap[gb332]? = some (.cells #[.int .i64 t327, .bool t328, .string t329, .string t330] 26 (0, 0))) := ⟨by (with_reducible repeat (first | refine vN ?_ _ | refine vD ?_ | refine vA ?_ _)); refine blk_far ?_ NB332_338.out _; (with_reducible repeat (first | refine vN ?_ _ | refine vD ?_ | refine vA ?_ _)); refine blk_far ?_ NB332_338.out _; (with_reducible repeat (first | refine vN ?_ _ | refine vD ?_ | refine vA ?_ _)); refine blk_far ?_ NB332_338.out _; (with_reducible repeat (first | refine vN ?_ _ | refine vD ?_ | refine vA ?_ _)); refine blk_far ?_ NB332_338.out _; (with_reducible repeat (first | refine vN ?_ _ | refine vD ?_ | refine vA ?_ _)); exact BK332.out⟩; have n1_ : Aside0 (((((w241.setCell ⟨gb338, 0, none⟩ (.int .i64 t333)).setCell ⟨gb338, 1, none⟩ (.bool t334)).setCell ⟨gb338, 2, none⟩ (.string t335)).setCell ⟨gb338, 3, none⟩ (.string t336)).heap[gb338]? = some (.cells #[.int .i64 t333, .bool t334, .string t335, .string t336] 26 (0, 0))) := ⟨by (with_reducible repeat (first | refine vN ?_ _ | refine vD ?_ | refine vA ?_ _)); refine blk_put (cs := #[.int .i64 t333, .bool t334, .string t335, .string (⟨#[]⟩ : ByteArray)]) ?_ 3 _ rfl; (with_reducible repeat (first | refine vN ?_ _ | refine vD ?_ | refine vA ?_ _)); refine blk_put (cs := #[.int .i64 t333, .bool t334, .string (⟨#[]⟩ : ByteArray), .string (⟨#[]⟩ : ByteArray)]) ?_ 2 _ rfl; (with_reducible repeat (first | refine vN ?_ _ | refine vD ?_ | refine vA ?_ _)); refine blk_put (cs := #[.int .i64 t333, .bool false, .string (⟨#[]⟩ : ByteArray), .string (⟨#[]⟩ : ByteArray)]) ?_ 1 _ rfl; (with_reducible repeat (first | refine vN ?_ _ | refine vD ?_ | refine vA ?_ _)); refine blk_put (cs := #[.int .i64 0, .bool false, .string (⟨#[]⟩ : ByteArray), .string (⟨#[]⟩ : ByteArray)]) ?_ 0 _ rfl; (with_reducible repeat (first | refine vN ?_ _ | refine vD ?_ | refine vA ?_ _)); exact BK338.out⟩; have n2_ : Aside0 (Below w.heap.size w ((((w241.setCell ⟨gb338, 0, none⟩ (.int .i64 t333)).setCell ⟨gb338, 1, none⟩ (.bool t334)).setCell ⟨gb338, 2, none⟩ (.string t335)).setCell ⟨gb338, 3, none⟩ (.string t336))) := ⟨bl⟩; (try clear BK332); (try clear BK338); (try clear HB); generalize ((((w241.setCell ⟨gb338, 0, none⟩ (.int .i64 t333)).setCell ⟨gb338, 1, none⟩ (.bool t334)).setCell ⟨gb338, 2, none⟩ (.string t335)).setCell ⟨gb338, 3, none⟩ (.string t336)) = w246 at n0_ n1_ n2_ ⊢; have BK332 := n0_; have BK338 := n1_; have HB := n2_; clear n0_ n1_ n2_; have n0_ := AM (vD BK332.out); have n1_ := AM (vD BK338.out); have n2_ := AM (wD HB.out)
                   clear BK332; clear BK338; clear HB; have BK332 := n0_; have BK338 := n1_; have HB := n2_; clear n0_ n1_ n2_; refine start_ (n := 17) (S := fun w' => True) (ds := []) #[false, false, false, false, false, false, false, false, false, false, false, false, false, false, false, false, false] (by kernel_rfl) rfl rfl trivial (fun hHeld => ?_); refine with_tabW targumlaw7_Float11Gaps.tab14 targumlaw7_Float11Gaps.bits14 (fun HT_ HW_ => ?_); generalize w246.drew = w247 at BK332 BK338 HB hHeld ⊢; refine pure_ (i := 0) (N := some 76) (v := ?_) (a' := ?_) #[true, false, false, false, false, false, false, false, false, false, false, false, false, false, false, false, false] rfl rfl (any_of HT_.out (by kernel_rfl)) (fun _ _ _ h => h) (Or.inl ⟨by rfl, ?_⟩) ?_ ?_; rotate_left
                   ·intro w'
                    go_simp; with_reducible rfl
                   rotate_left
                   ·simp only [Act.put, qI, qz, qs, qi, qj]
                    rfl
                   refine pure_ (i := 1) (N := some 77) (v := ?_) (a' := ?_) #[true, true, false, false, false, false, false, false, false, false, false, false, false, false, false, false, false] rfl rfl (any_of HT_.out (by kernel_rfl)) (fun _ _ _ h => h) (Or.inl ⟨by rfl, ?_⟩) ?_ ?_; rotate_left
                   ·intro w'
                    go_simp; with_reducible rfl
                   rotate_left
                   ·simp only [Act.put, qI, qz, qs, qi, qj]
                    rfl
                   refine pure_ (i := 2) (N := some 78) (v := ?_) (a' := ?_) #[true, true, true, false, false, false, false, false, false, false, false, false, false, false, false, false, false] rfl rfl (any_of HT_.out (by kernel_rfl)) (fun _ _ _ h => h) (Or.inl ⟨by rfl, ?_⟩) ?_ ?_; rotate_left
                   ·intro w'
                    go_simp; with_reducible rfl
                   rotate_left
                   ·simp only [Act.put, qI, qz, qs, qi, qj]
                    rfl
                   refine pure_ (i := 3) (N := some 79) (v := ?_) (a' := ?_) #[true, true, true, true, false, false, false, false, false, false, false, false, false, false, false, false, false] rfl rfl (any_of HT_.out (by kernel_rfl)) (fun _ _ _ h => h) (Or.inl ⟨by rfl, ?_⟩) ?_ ?_; rotate_left
                   ·intro w'
                    go_simp; with_reducible rfl
                   rotate_left
                   ·simp only [Act.put, qI, qz, qs, qi, qj]
                    rfl
                   refine pure_ (i := 4) (N := some 80) (v := ?_) (a' := ?_) #[true, true, true, true, true, false, false, false, false, false, false, false, false, false, false, false, false] rfl rfl (any_of HT_.out (by kernel_rfl)) (fun _ _ _ h => h) (Or.inl ⟨by rfl, ?_⟩) ?_ ?_; rotate_left
                   ·intro w'
                    go_simp; with_reducible rfl
                   rotate_left
                   ·simp only [Act.put, qI, qz, qs, qi, qj]
                    rfl
                   refine pure_ (i := 5) (N := some 81) (v := ?_) (a' := ?_) #[true, true, true, true, true, true, false, false, false, false, false, false, false, false, false, false, false] rfl rfl (any_of HT_.out (by kernel_rfl)) (fun _ _ _ h => h) (Or.inl ⟨by rfl, ?_⟩) ?_ ?_; rotate_left
                   ·intro w'
                    go_simp; with_reducible rfl
                   rotate_left
                   ·simp only [Act.put, qI, qz, qs, qi, qj]
                    rfl
                   refine pure_ (i := 6) (N := some 82) (v := ?_) (a' := ?_) #[true, true, true, true, true, true, true, false, false, false, false, false, false, false, false, false, false] rfl rfl (any_of HT_.out (by kernel_rfl)) (fun _ _ _ h => h) (Or.inl ⟨by rfl, ?_⟩) ?_ ?_; rotate_left
                   ·intro w'
                    go_simp; with_reducible rfl
                   rotate_left
                   ·simp only [Act.put, qI, qz, qs, qi, qj]
                    rfl
                   refine pure_ (i := 7) (N := some 83) (v := ?_) (a' := ?_) #[true, true, true, true, true, true, true, true, false, false, false, false, false, false, false, false, false] rfl rfl (any_of HT_.out (by kernel_rfl)) (fun _ _ _ h => h) (Or.inl ⟨by rfl, ?_⟩) ?_ ?_; rotate_left
                   ·intro w'
                    go_simp; with_reducible rfl
                   rotate_left
                   ·simp only [Act.put, qI, qz, qs, qi, qj]
                    rfl
                   refine pure_ (i := 8) (N := some 84) (v := ?_) (a' := ?_) #[true, true, true, true, true, true, true, true, true, false, false, false, false, false, false, false, false] rfl rfl (any_of HT_.out (by kernel_rfl)) (fun _ _ _ h => h) (Or.inl ⟨by rfl, ?_⟩) ?_ ?_; rotate_left
                   ·intro w'
                    go_simp; with_reducible rfl
                   rotate_left
                   ·simp only [Act.put, qI, qz, qs, qi, qj]
                    rfl
                   refine pure_ (i := 9) (N := some 85) (v := ?_) (a' := ?_) #[true, true, true, true, true, true, true, true, true, true, false, false, false, false, false, false, false] rfl rfl (any_of HT_.out (by kernel_rfl)) (fun _ _ _ h => h) (Or.inl ⟨by rfl, ?_⟩) ?_ ?_; rotate_left
                   ·intro w'
                    go_simp; with_reducible rfl
                   rotate_left
                   ·simp only [Act.put, qI, qz, qs, qi, qj]
                    rfl
                   refine join_ (σ := Nat) 2 #[true, true, true, true, true, true, true, true, true, true, true, true, true, true, true, false, false] (fun s_ => [(86, .tuple #[.agg #[.int .i64 t339, .bool t340, .string t341, .string t342], .bool false]), (17, .pointer (some ⟨s_, 0, none⟩)), (75, .tuple #[.agg #[.int .i64 t339, .bool t340, .string t341, .string t342], .bool false]), (87, .agg #[.int .i64 t339, .bool t340, .string t341, .string t342]), (88, .bool false)]) (fun s_ w' => (w'.heap[gb332]? = some (.cells #[.int .i64 t327, .bool t328, .string t329, .string t330] 26 (0, 0))) ∧ (w'.heap[gb338]? = some (.cells #[.int .i64 t333, .bool t334, .string t335, .string t336] 26 (0, 0))) ∧ (w'.heap[s_]? = some (.cells #[.int .i64 0, .bool false, .string (⟨#[]⟩ : ByteArray), .string (⟨#[]⟩ : ByteArray)] 26 (0, 0))) ∧ (w.heap.size ≤ s_) ∧ (w.heap.size ≤ s_) ∧ (gb332 ≠ s_) ∧ (s_ ≠ gb332) ∧ (gb338 ≠ s_) ∧ (s_ ≠ gb338) ∧ (Below w.heap.size w w')) ?_ ?_; rotate_left
                   ·as_aux_lemma =>
                    intro hCont; refine two_ (i := 10) (j := 14) (Ni := some 86) (Nj := some 17) #[true, true, true, true, true, true, true, true, true, true, true, false, false, false, false, false, false] #[true, true, true, true, true, true, true, true, true, true, false, false, false, false, true, false, false] rfl rfl rfl rfl (two_of HT_.out (by kernel_rfl)) (by decide) (by decide) (fun K hK => ?_) (fun K hK => ?_)
                    ·skip
                     refine goes_ Tryz.func8 (by kernel_rfl) rfl #[.string ((((js1.extract 0 ((ji22) : Int).toNat) ++ x11_2) ++ (js1.extract ((ji22) : Int).toNat js1.size)) ++ (⟨#[101, 45, 55]⟩ : ByteArray))] (by rfl) rfl rfl (by (try simp only [qT, qC, qN]); first | done | (simp only [hji22]; rfl) | rfl | (simp only [qD, qU]; rfl)) ?_; with_reducible refine (float11_Of.calls k2 ((((js1.extract 0 ((ji22) : Int).toNat) ++ x11_2) ++ (js1.extract ((ji22) : Int).toNat js1.size)) ++ (⟨#[101, 45, 55]⟩ : ByteArray)) t339 t340 t341 t342 false _ ?side1 A35.out).mono ?_; (case side1 => exact Go.Proofs.YtkijneohhilboaaGreatDoor.PKT.Tabs_below HG.out bl); rintro e w248 ⟨rfl, hb⟩; refine ⟨_, rfl, ?_⟩; replace BK332 := AM (blk_below (g := gb332) (o := .cells #[.int .i64 t327, .bool t328, .string t329, .string t330] 26 (0, 0)) bk hb); replace BK338 := AM (blk_below (g := gb338) (o := .cells #[.int .i64 t333, .bool t334, .string t335, .string t336] 26 (0, 0)) bk hb); replace HB := AM (below_step bl hb); (try clear hb); refine hK.out _ _ trivial (fun hHeld => ?_); clear hK K; refine norm_ (a' := ?_) ?_ ?_; rotate_left
                     ·show Act.put _ (some 86) _ = _
                      simp only [Act.put, qI, qz, qs, qi, qj]; rfl
                     refine pure_ (i := 11) (N := some 75) (v := ?_) (a' := ?_) #[true, true, true, true, true, true, true, true, true, true, true, true, false, false, false, false, false] rfl rfl (any_of HT_.out (by kernel_rfl)) (fun _ _ _ h => h) (Or.inl ⟨by rfl, ?_⟩) ?_ ?_; rotate_left
                     ·intro w'
                      go_simp; with_reducible rfl
                     rotate_left
                     ·simp only [Act.put, qI, qz, qs, qi, qj]
                      rfl
                     refine pure_ (i := 12) (N := some 87) (v := ?_) (a' := ?_) #[true, true, true, true, true, true, true, true, true, true, true, true, true, false, false, false, false] rfl rfl (any_of HT_.out (by kernel_rfl)) (fun _ _ _ h => h) (Or.inl ⟨by rfl, ?_⟩) ?_ ?_; rotate_left
                     ·intro w'
                      go_simp; with_reducible rfl
                     rotate_left
                     ·simp only [Act.put, qI, qz, qs, qi, qj]
                      rfl
                     refine pure_ (i := 13) (N := some 88) (v := ?_) (a' := ?_) #[true, true, true, true, true, true, true, true, true, true, true, true, true, true, false, false, false] rfl rfl (any_of HT_.out (by kernel_rfl)) (fun _ _ _ h => h) (Or.inl ⟨by rfl, ?_⟩) ?_ ?_; rotate_left
                     ·intro w'
                      go_simp; with_reducible rfl
                     rotate_left
                     ·simp only [Act.put, qI, qz, qs, qi, qj]
                      rfl
                     refine one_ (i := 14) (N := some 17) #[true, true, true, true, true, true, true, true, true, true, true, true, true, true, true, false, false] rfl rfl (one_of HT_.out (by kernel_rfl)) (by decide) (fun K hK => ?_); refine box_step ?hg (N := 17) ?hd (cs := #[.int .i64 0, .bool false, .string (⟨#[]⟩ : ByteArray), .string (⟨#[]⟩ : ByteArray)]) (t := 26) ?hr ?_; (case hd => rfl); (case hg => rfl); (case hr => first | (go_simp; done) | (go_simp; rfl)); intro gb344 hg w249 hbox hb; have NB332_344 := AM ((by rw [hg]; exact Nat.ne_of_lt (blk_lt (g := gb332) (o := .cells #[.int .i64 t327, .bool t328, .string t329, .string t330] 26 (0, 0)) bk) : gb332 ≠ gb344)); have NB344_332 := AM (Ne.symm NB332_344.out); have NB338_344 := AM ((by rw [hg]; exact Nat.ne_of_lt (blk_lt (g := gb338) (o := .cells #[.int .i64 t333, .bool t334, .string t335, .string t336] 26 (0, 0)) bk) : gb338 ≠ gb344)); have NB344_338 := AM (Ne.symm NB338_344.out); have GW344 := gq (w := w) hg; have GE344 := GW344; replace BK332 := AM (blk_below (g := gb332) (o := .cells #[.int .i64 t327, .bool t328, .string t329, .string t330] 26 (0, 0)) bk hb); replace BK338 := AM (blk_below (g := gb338) (o := .cells #[.int .i64 t333, .bool t334, .string t335, .string t336] 26 (0, 0)) bk hb); replace HB := AM (below_step bl hb); have BK344 := AM (hbox); clear hb hbox hg; refine hK.out _ _ trivial (fun hHeld => ?_); clear hK K; refine norm_ (a' := ?_) ?_ ?_; rotate_left
                     ·show Act.put _ (some 17) _ = _
                      simp only [Act.put, qI, qz, qs, qi, qj]; rfl
                     exact norm_ (by simp only [putAll, Act.put, qI, qz, qs]) (hCont (gb344) _ ⟨bk, bk, bk, GW344.out, GE344.out, NB332_344.out, NB344_332.out, NB338_344.out, NB344_338.out, bl⟩)
                    ·skip
                     refine box_step ?hg (N := 17) ?hd (cs := #[.int .i64 0, .bool false, .string (⟨#[]⟩ : ByteArray), .string (⟨#[]⟩ : ByteArray)]) (t := 26) ?hr ?_; (case hd => rfl); (case hg => rfl); (case hr => first | (go_simp; done) | (go_simp; rfl)); intro gb344 hg w248 hbox hb; have NB332_344 := AM ((by rw [hg]; exact Nat.ne_of_lt (blk_lt (g := gb332) (o := .cells #[.int .i64 t327, .bool t328, .string t329, .string t330] 26 (0, 0)) bk) : gb332 ≠ gb344)); have NB344_332 := AM (Ne.symm NB332_344.out); have NB338_344 := AM ((by rw [hg]; exact Nat.ne_of_lt (blk_lt (g := gb338) (o := .cells #[.int .i64 t333, .bool t334, .string t335, .string t336] 26 (0, 0)) bk) : gb338 ≠ gb344)); have NB344_338 := AM (Ne.symm NB338_344.out); have GW344 := gq (w := w) hg; have GE344 := GW344; replace BK332 := AM (blk_below (g := gb332) (o := .cells #[.int .i64 t327, .bool t328, .string t329, .string t330] 26 (0, 0)) bk hb); replace BK338 := AM (blk_below (g := gb338) (o := .cells #[.int .i64 t333, .bool t334, .string t335, .string t336] 26 (0, 0)) bk hb); replace HB := AM (below_step bl hb); have BK344 := AM (hbox); clear hb hbox hg; refine hK.out _ _ trivial (fun hHeld => ?_); clear hK K; refine norm_ (a' := ?_) ?_ ?_; rotate_left
                     ·show Act.put _ (some 17) _ = _
                      simp only [Act.put, qI, qz, qs, qi, qj]; rfl
                     refine one_ (i := 10) (N := some 86) #[true, true, true, true, true, true, true, true, true, true, true, false, false, false, true, false, false] rfl rfl (one_of HT_.out (by kernel_rfl)) (by decide) (fun K hK => ?_); refine goes_ Tryz.func8 (by kernel_rfl) rfl #[.string ((((js1.extract 0 ((ji22) : Int).toNat) ++ x11_2) ++ (js1.extract ((ji22) : Int).toNat js1.size)) ++ (⟨#[101, 45, 55]⟩ : ByteArray))] (by rfl) rfl rfl (by (try simp only [qT, qC, qN]); first | done | (simp only [hji22]; rfl) | rfl | (simp only [qD, qU]; rfl)) ?_; with_reducible refine (float11_Of.calls k2 ((((js1.extract 0 ((ji22) : Int).toNat) ++ x11_2) ++ (js1.extract ((ji22) : Int).toNat js1.size)) ++ (⟨#[101, 45, 55]⟩ : ByteArray)) t339 t340 t341 t342 false _ ?side1 A35.out).mono ?_; (case side1 => exact Go.Proofs.YtkijneohhilboaaGreatDoor.PKT.Tabs_below HG.out bl); rintro e w249 ⟨rfl, hb⟩; refine ⟨_, rfl, ?_⟩; replace BK332 := AM (blk_below (g := gb332) (o := .cells #[.int .i64 t327, .bool t328, .string t329, .string t330] 26 (0, 0)) bk hb); replace BK338 := AM (blk_below (g := gb338) (o := .cells #[.int .i64 t333, .bool t334, .string t335, .string t336] 26 (0, 0)) bk hb); replace BK344 := AM (blk_below (g := gb344) (o := .cells #[.int .i64 0, .bool false, .string (⟨#[]⟩ : ByteArray), .string (⟨#[]⟩ : ByteArray)] 26 (0, 0)) bk hb); replace HB := AM (below_step bl hb); (try clear hb); refine hK.out _ _ trivial (fun hHeld => ?_); clear hK K; refine norm_ (a' := ?_) ?_ ?_; rotate_left
                     ·show Act.put _ (some 86) _ = _
                      simp only [Act.put, qI, qz, qs, qi, qj]; rfl
                     refine pure_ (i := 11) (N := some 75) (v := ?_) (a' := ?_) #[true, true, true, true, true, true, true, true, true, true, true, true, false, false, true, false, false] rfl rfl (any_of HT_.out (by kernel_rfl)) (fun _ _ _ h => h) (Or.inl ⟨by rfl, ?_⟩) ?_ ?_; rotate_left
                     ·intro w'
                      go_simp; with_reducible rfl
                     rotate_left
                     ·simp only [Act.put, qI, qz, qs, qi, qj]
                      rfl
                     refine pure_ (i := 12) (N := some 87) (v := ?_) (a' := ?_) #[true, true, true, true, true, true, true, true, true, true, true, true, true, false, true, false, false] rfl rfl (any_of HT_.out (by kernel_rfl)) (fun _ _ _ h => h) (Or.inl ⟨by rfl, ?_⟩) ?_ ?_; rotate_left
                     ·intro w'
                      go_simp; with_reducible rfl
                     rotate_left
                     ·simp only [Act.put, qI, qz, qs, qi, qj]
                      rfl
                     refine pure_ (i := 13) (N := some 88) (v := ?_) (a' := ?_) #[true, true, true, true, true, true, true, true, true, true, true, true, true, true, true, false, false] rfl rfl (any_of HT_.out (by kernel_rfl)) (fun _ _ _ h => h) (Or.inl ⟨by rfl, ?_⟩) ?_ ?_; rotate_left
                     ·intro w'
                      go_simp; with_reducible rfl
                     rotate_left
                     ·simp only [Act.put, qI, qz, qs, qi, qj]
                      rfl
                     exact norm_ (by simp only [putAll, Act.put, qI, qz, qs]) (hCont (gb344) _ ⟨bk, bk, bk, GW344.out, GE344.out, NB332_344.out, NB344_332.out, NB338_344.out, NB344_338.out, bl⟩)
                   rintro gb344 w250 ⟨h0_, h1_, h2_, h3_, h4_, h5_, h6_, h7_, h8_, h9_⟩; have n0_ : Aside0 (w250.heap[gb332]? = some (.cells #[.int .i64 t327, .bool t328, .string t329, .string t330] 26 (0, 0))) := ⟨h0_⟩; have n1_ : Aside0 (w250.heap[gb338]? = some (.cells #[.int .i64 t333, .bool t334, .string t335, .string t336] 26 (0, 0))) := ⟨h1_⟩; have n2_ : Aside0 (w250.heap[gb344]? = some (.cells #[.int .i64 0, .bool false, .string (⟨#[]⟩ : ByteArray), .string (⟨#[]⟩ : ByteArray)] 26 (0, 0))) := ⟨h2_⟩; have n3_ : Aside0 (w.heap.size ≤ gb344) := ⟨h3_⟩; have n4_ : Aside0 (w.heap.size ≤ gb344) := ⟨h4_⟩; have n5_ : Aside0 (gb332 ≠ gb344) := ⟨h5_⟩; have n6_ : Aside0 (gb344 ≠ gb332) := ⟨h6_⟩; have n7_ : Aside0 (gb338 ≠ gb344) := ⟨h7_⟩; have n8_ : Aside0 (gb344 ≠ gb338) := ⟨h8_⟩; have n9_ : Aside0 (Below w.heap.size w w250) := ⟨h9_⟩; clear BK332; clear BK338; clear HB; clear h0_ h1_ h2_ h3_ h4_ h5_ h6_ h7_ h8_ h9_; have BK332 := n0_; have BK338 := n1_; have BK344 := n2_; have GW344 := n3_; have GE344 := n4_; have NB332_344 := n5_; have NB344_332 := n6_; have NB338_344 := n7_; have NB344_338 := n8_; have HB := n9_; clear n0_ n1_ n2_ n3_ n4_ n5_ n6_ n7_ n8_ n9_; have hHeld := trivial; refine norm_ (a' := ?_) ?_ ?_; rotate_left
                   ·simp only [putAll, Act.put, qI, qz, qs]
                    rfl
                   refine one_ (i := 15) (N := none) #[true, true, true, true, true, true, true, true, true, true, true, true, true, true, true, true, false] rfl rfl (one_of HT_.out (by kernel_rfl)) (by decide) (fun K hK => ?_); have hs251 : w250.cell? ⟨gb344, 0, none⟩ = some (.int .i64 0) := (blk_cell BK344.out 0).trans rfl; have hfs251 := blk_frozen BK344.out 0; have hns251_0 := NB332_344.out; have hns251_1 := NB338_344.out; have hms251_0 := NB344_332.out; have hms251_1 := NB344_338.out; have hs252 : w250.cell? ⟨gb344, 1, none⟩ = some (.bool false) := (blk_cell BK344.out 1).trans rfl; have hfs252 := blk_frozen BK344.out 1; have hns252_0 := NB332_344.out; have hns252_1 := NB338_344.out; have hms252_0 := NB344_332.out; have hms252_1 := NB344_338.out; have hs253 : w250.cell? ⟨gb344, 2, none⟩ = some (.string (⟨#[]⟩ : ByteArray)) := (blk_cell BK344.out 2).trans rfl; have hfs253 := blk_frozen BK344.out 2; have hns253_0 := NB332_344.out; have hns253_1 := NB338_344.out; have hms253_0 := NB344_332.out; have hms253_1 := NB344_338.out; have hs254 : w250.cell? ⟨gb344, 3, none⟩ = some (.string (⟨#[]⟩ : ByteArray)) := (blk_cell BK344.out 3).trans rfl; have hfs254 := blk_frozen BK344.out 3; have hns254_0 := NB332_344.out; have hns254_1 := NB338_344.out; have hms254_0 := NB344_332.out; have hms254_1 := NB344_338.out; refine skip_ (w1 := ?_) (by rfl) rfl ?_ ?_; rotate_left
                   ·go_simp
                    rfl
                   refine hK.out _ _ trivial (fun hHeld => ?_); clear hK K; refine pure_ (i := 16) (N := some 18) (v := ?_) (a' := ?_) #[true, true, true, true, true, true, true, true, true, true, true, true, true, true, true, true, true] rfl rfl (any_of HT_.out (by kernel_rfl)) (fun _ _ _ h => h) (Or.inl ⟨by rfl, ?_⟩) ?_ ?_; rotate_left
                   ·intro w'
                    go_simp; with_reducible rfl
                   rotate_left
                   ·simp only [Act.put, qI, qz, qs, qi, qj]
                    rfl
                   refine done_ (done_of HT_.out (by kernel_rfl)) ?_; skip
                 case' y17 =>
                  replace c40 := Bool.eq_false_iff.mpr c40; subst c40; have H1 : (some false) = some r := by rw [if_neg (show ¬ (false = true) by decide)] at H; exact H
                  clear H; have H := H1; clear H1; obtain rfl := Option.some.inj H; refine start_ (n := 16) (S := fun w' => True) (ds := []) #[false, false, false, false, false, false, false, false, false, false, false, false, false, false, false, false] (by kernel_rfl) rfl rfl trivial (fun hHeld => ?_); refine with_tabW targumlaw7_Float11Gaps.tab13 targumlaw7_Float11Gaps.bits13 (fun HT_ HW_ => ?_); generalize w52.drew = w267 at BK332 HB hHeld ⊢; refine pure_ (i := 0) (N := some 63) (v := ?_) (a' := ?_) #[true, false, false, false, false, false, false, false, false, false, false, false, false, false, false, false] rfl rfl (any_of HT_.out (by kernel_rfl)) (fun _ _ _ h => h) (Or.inl ⟨by rfl, ?_⟩) ?_ ?_; rotate_left
                  ·intro w'
                   go_simp; with_reducible rfl
                  rotate_left
                  ·simp only [Act.put, qI, qz, qs, qi, qj]
                   rfl
                  refine pure_ (i := 1) (N := some 64) (v := ?_) (a' := ?_) #[true, true, false, false, false, false, false, false, false, false, false, false, false, false, false, false] rfl rfl (any_of HT_.out (by kernel_rfl)) (fun _ _ _ h => h) (Or.inl ⟨by rfl, ?_⟩) ?_ ?_; rotate_left
                  ·intro w'
                   go_simp; with_reducible rfl
                  rotate_left
                  ·simp only [Act.put, qI, qz, qs, qi, qj]
                   rfl
                  refine pure_ (i := 2) (N := some 65) (v := ?_) (a' := ?_) #[true, true, true, false, false, false, false, false, false, false, false, false, false, false, false, false] rfl rfl (any_of HT_.out (by kernel_rfl)) (fun _ _ _ h => h) (Or.inl ⟨by rfl, ?_⟩) ?_ ?_; rotate_left
                  ·intro w'
                   go_simp; with_reducible rfl
                  rotate_left
                  ·simp only [Act.put, qI, qz, qs, qi, qj]
                   rfl
                  refine pure_ (i := 3) (N := some 66) (v := ?_) (a' := ?_) #[true, true, true, true, false, false, false, false, false, false, false, false, false, false, false, false] rfl rfl (any_of HT_.out (by kernel_rfl)) (fun _ _ _ h => h) (Or.inl ⟨by rfl, ?_⟩) ?_ ?_; rotate_left
                  ·intro w'
                   go_simp; with_reducible rfl
                  rotate_left
                  ·simp only [Act.put, qI, qz, qs, qi, qj]
                   rfl
                  refine pure_ (i := 4) (N := some 67) (v := ?_) (a' := ?_) #[true, true, true, true, true, false, false, false, false, false, false, false, false, false, false, false] rfl rfl (any_of HT_.out (by kernel_rfl)) (fun _ _ _ h => h) (Or.inl ⟨by rfl, ?_⟩) ?_ ?_; rotate_left
                  ·intro w'
                   go_simp; with_reducible rfl
                  rotate_left
                  ·simp only [Act.put, qI, qz, qs, qi, qj]
                   rfl
                  refine pure_ (i := 5) (N := some 68) (v := ?_) (a' := ?_) #[true, true, true, true, true, true, false, false, false, false, false, false, false, false, false, false] rfl rfl (any_of HT_.out (by kernel_rfl)) (fun _ _ _ h => h) (Or.inl ⟨by rfl, ?_⟩) ?_ ?_; rotate_left
                  ·intro w'
                   go_simp; with_reducible rfl
                  rotate_left
                  ·simp only [Act.put, qI, qz, qs, qi, qj]
                   rfl
                  refine pure_ (i := 6) (N := some 69) (v := ?_) (a' := ?_) #[true, true, true, true, true, true, true, false, false, false, false, false, false, false, false, false] rfl rfl (any_of HT_.out (by kernel_rfl)) (fun _ _ _ h => h) (Or.inl ⟨by rfl, ?_⟩) ?_ ?_; rotate_left
                  ·intro w'
                   go_simp; with_reducible rfl
                  rotate_left
                  ·simp only [Act.put, qI, qz, qs, qi, qj]
                   rfl
                  refine pure_ (i := 7) (N := some 70) (v := ?_) (a' := ?_) #[true, true, true, true, true, true, true, true, false, false, false, false, false, false, false, false] rfl rfl (any_of HT_.out (by kernel_rfl)) (fun _ _ _ h => h) (Or.inl ⟨by rfl, ?_⟩) ?_ ?_; rotate_left
                  ·intro w'
                   go_simp; with_reducible rfl
                  rotate_left
                  ·simp only [Act.put, qI, qz, qs, qi, qj]
                   rfl
                  refine pure_ (i := 8) (N := some 71) (v := ?_) (a' := ?_) #[true, true, true, true, true, true, true, true, true, false, false, false, false, false, false, false] rfl rfl (any_of HT_.out (by kernel_rfl)) (fun _ _ _ h => h) (Or.inl ⟨by rfl, ?_⟩) ?_ ?_; rotate_left
                  ·intro w'
                   go_simp; with_reducible rfl
                  rotate_left
                  ·simp only [Act.put, qI, qz, qs, qi, qj]
                   rfl
                  refine join_ (σ := Nat) 2 #[true, true, true, true, true, true, true, true, true, true, true, true, true, true, false, false] (fun s_ => [(72, .tuple #[.agg #[.int .i64 t333, .bool t334, .string t335, .string t336], .bool false]), (15, .pointer (some ⟨s_, 0, none⟩)), (62, .tuple #[.agg #[.int .i64 t333, .bool t334, .string t335, .string t336], .bool false]), (73, .agg #[.int .i64 t333, .bool t334, .string t335, .string t336]), (74, .bool false)]) (fun s_ w' => (w'.heap[gb332]? = some (.cells #[.int .i64 t327, .bool t328, .string t329, .string t330] 26 (0, 0))) ∧ (w'.heap[s_]? = some (.cells #[.int .i64 0, .bool false, .string (⟨#[]⟩ : ByteArray), .string (⟨#[]⟩ : ByteArray)] 26 (0, 0))) ∧ (w.heap.size ≤ s_) ∧ (w.heap.size ≤ s_) ∧ (gb332 ≠ s_) ∧ (s_ ≠ gb332) ∧ (Below w.heap.size w w')) ?_ ?_; rotate_left
                  ·as_aux_lemma =>
                   intro hCont; refine two_ (i := 9) (j := 13) (Ni := some 72) (Nj := some 15) #[true, true, true, true, true, true, true, true, true, true, false, false, false, false, false, false] #[true, true, true, true, true, true, true, true, true, false, false, false, false, true, false, false] rfl rfl rfl rfl (two_of HT_.out (by kernel_rfl)) (by decide) (by decide) (fun K hK => ?_) (fun K hK => ?_)
                   ·skip
                    refine goes_ Tryz.func8 (by kernel_rfl) rfl #[.string (((js1.extract 0 ((ji22) : Int).toNat) ++ x11_2) ++ (js1.extract ((ji22) : Int).toNat js1.size))] (by rfl) rfl rfl (by (try simp only [qT, qC, qN]); first | done | (simp only [hji22]; rfl) | rfl | (simp only [qD, qU]; rfl)) ?_; with_reducible refine (float11_Of.calls k2 (((js1.extract 0 ((ji22) : Int).toNat) ++ x11_2) ++ (js1.extract ((ji22) : Int).toNat js1.size)) t333 t334 t335 t336 false _ ?side1 A29.out).mono ?_; (case side1 => exact Go.Proofs.YtkijneohhilboaaGreatDoor.PKT.Tabs_below HG.out bl); rintro e w268 ⟨rfl, hb⟩; refine ⟨_, rfl, ?_⟩; replace BK332 := AM (blk_below (g := gb332) (o := .cells #[.int .i64 t327, .bool t328, .string t329, .string t330] 26 (0, 0)) bk hb); replace HB := AM (below_step bl hb); (try clear hb); refine hK.out _ _ trivial (fun hHeld => ?_); clear hK K; refine norm_ (a' := ?_) ?_ ?_; rotate_left
                    ·show Act.put _ (some 72) _ = _
                     simp only [Act.put, qI, qz, qs, qi, qj]; rfl
                    refine pure_ (i := 10) (N := some 62) (v := ?_) (a' := ?_) #[true, true, true, true, true, true, true, true, true, true, true, false, false, false, false, false] rfl rfl (any_of HT_.out (by kernel_rfl)) (fun _ _ _ h => h) (Or.inl ⟨by rfl, ?_⟩) ?_ ?_; rotate_left
                    ·intro w'
                     go_simp; with_reducible rfl
                    rotate_left
                    ·simp only [Act.put, qI, qz, qs, qi, qj]
                     rfl
                    refine pure_ (i := 11) (N := some 73) (v := ?_) (a' := ?_) #[true, true, true, true, true, true, true, true, true, true, true, true, false, false, false, false] rfl rfl (any_of HT_.out (by kernel_rfl)) (fun _ _ _ h => h) (Or.inl ⟨by rfl, ?_⟩) ?_ ?_; rotate_left
                    ·intro w'
                     go_simp; with_reducible rfl
                    rotate_left
                    ·simp only [Act.put, qI, qz, qs, qi, qj]
                     rfl
                    refine pure_ (i := 12) (N := some 74) (v := ?_) (a' := ?_) #[true, true, true, true, true, true, true, true, true, true, true, true, true, false, false, false] rfl rfl (any_of HT_.out (by kernel_rfl)) (fun _ _ _ h => h) (Or.inl ⟨by rfl, ?_⟩) ?_ ?_; rotate_left
                    ·intro w'
                     go_simp; with_reducible rfl
                    rotate_left
                    ·simp only [Act.put, qI, qz, qs, qi, qj]
                     rfl
                    refine one_ (i := 13) (N := some 15) #[true, true, true, true, true, true, true, true, true, true, true, true, true, true, false, false] rfl rfl (one_of HT_.out (by kernel_rfl)) (by decide) (fun K hK => ?_); refine box_step ?hg (N := 15) ?hd (cs := #[.int .i64 0, .bool false, .string (⟨#[]⟩ : ByteArray), .string (⟨#[]⟩ : ByteArray)]) (t := 26) ?hr ?_; (case hd => rfl); (case hg => rfl); (case hr => first | (go_simp; done) | (go_simp; rfl)); intro gb338 hg w269 hbox hb; have NB332_338 := AM ((by rw [hg]; exact Nat.ne_of_lt (blk_lt (g := gb332) (o := .cells #[.int .i64 t327, .bool t328, .string t329, .string t330] 26 (0, 0)) bk) : gb332 ≠ gb338)); have NB338_332 := AM (Ne.symm NB332_338.out); have GW338 := gq (w := w) hg; have GE338 := GW338; replace BK332 := AM (blk_below (g := gb332) (o := .cells #[.int .i64 t327, .bool t328, .string t329, .string t330] 26 (0, 0)) bk hb); replace HB := AM (below_step bl hb); have BK338 := AM (hbox); clear hb hbox hg; refine hK.out _ _ trivial (fun hHeld => ?_); clear hK K; refine norm_ (a' := ?_) ?_ ?_; rotate_left
                    ·show Act.put _ (some 15) _ = _
                     simp only [Act.put, qI, qz, qs, qi, qj]; rfl
                    exact norm_ (by simp only [putAll, Act.put, qI, qz, qs]) (hCont (gb338) _ ⟨bk, bk, GW338.out, GE338.out, NB332_338.out, NB338_332.out, bl⟩)
                   ·skip
                    refine box_step ?hg (N := 15) ?hd (cs := #[.int .i64 0, .bool false, .string (⟨#[]⟩ : ByteArray), .string (⟨#[]⟩ : ByteArray)]) (t := 26) ?hr ?_; (case hd => rfl); (case hg => rfl); (case hr => first | (go_simp; done) | (go_simp; rfl)); intro gb338 hg w268 hbox hb; have NB332_338 := AM ((by rw [hg]; exact Nat.ne_of_lt (blk_lt (g := gb332) (o := .cells #[.int .i64 t327, .bool t328, .string t329, .string t330] 26 (0, 0)) bk) : gb332 ≠ gb338)); have NB338_332 := AM (Ne.symm NB332_338.out); have GW338 := gq (w := w) hg; have GE338 := GW338; replace BK332 := AM (blk_below (g := gb332) (o := .cells #[.int .i64 t327, .bool t328, .string t329, .string t330] 26 (0, 0)) bk hb); replace HB := AM (below_step bl hb); have BK338 := AM (hbox); clear hb hbox hg; refine hK.out _ _ trivial (fun hHeld => ?_); clear hK K; refine norm_ (a' := ?_) ?_ ?_; rotate_left
                    ·show Act.put _ (some 15) _ = _
                     simp only [Act.put, qI, qz, qs, qi, qj]; rfl
                    refine one_ (i := 9) (N := some 72) #[true, true, true, true, true, true, true, true, true, true, false, false, false, true, false, false] rfl rfl (one_of HT_.out (by kernel_rfl)) (by decide) (fun K hK => ?_); refine goes_ Tryz.func8 (by kernel_rfl) rfl #[.string (((js1.extract 0 ((ji22) : Int).toNat) ++ x11_2) ++ (js1.extract ((ji22) : Int).toNat js1.size))] (by rfl) rfl rfl (by (try simp only [qT, qC, qN]); first | done | (simp only [hji22]; rfl) | rfl | (simp only [qD, qU]; rfl)) ?_; with_reducible refine (float11_Of.calls k2 (((js1.extract 0 ((ji22) : Int).toNat) ++ x11_2) ++ (js1.extract ((ji22) : Int).toNat js1.size)) t333 t334 t335 t336 false _ ?side1 A29.out).mono ?_; (case side1 => exact Go.Proofs.YtkijneohhilboaaGreatDoor.PKT.Tabs_below HG.out bl); rintro e w269 ⟨rfl, hb⟩; refine ⟨_, rfl, ?_⟩; replace BK332 := AM (blk_below (g := gb332) (o := .cells #[.int .i64 t327, .bool t328, .string t329, .string t330] 26 (0, 0)) bk hb); replace BK338 := AM (blk_below (g := gb338) (o := .cells #[.int .i64 0, .bool false, .string (⟨#[]⟩ : ByteArray), .string (⟨#[]⟩ : ByteArray)] 26 (0, 0)) bk hb); replace HB := AM (below_step bl hb); (try clear hb); refine hK.out _ _ trivial (fun hHeld => ?_); clear hK K; refine norm_ (a' := ?_) ?_ ?_; rotate_left
                    ·show Act.put _ (some 72) _ = _
                     simp only [Act.put, qI, qz, qs, qi, qj]; rfl
                    refine pure_ (i := 10) (N := some 62) (v := ?_) (a' := ?_) #[true, true, true, true, true, true, true, true, true, true, true, false, false, true, false, false] rfl rfl (any_of HT_.out (by kernel_rfl)) (fun _ _ _ h => h) (Or.inl ⟨by rfl, ?_⟩) ?_ ?_; rotate_left
                    ·intro w'
                     go_simp; with_reducible rfl
                    rotate_left
                    ·simp only [Act.put, qI, qz, qs, qi, qj]
                     rfl
                    refine pure_ (i := 11) (N := some 73) (v := ?_) (a' := ?_) #[true, true, true, true, true, true, true, true, true, true, true, true, false, true, false, false] rfl rfl (any_of HT_.out (by kernel_rfl)) (fun _ _ _ h => h) (Or.inl ⟨by rfl, ?_⟩) ?_ ?_; rotate_left
                    ·intro w'
                     go_simp; with_reducible rfl
                    rotate_left
                    ·simp only [Act.put, qI, qz, qs, qi, qj]
                     rfl
                    refine pure_ (i := 12) (N := some 74) (v := ?_) (a' := ?_) #[true, true, true, true, true, true, true, true, true, true, true, true, true, true, false, false] rfl rfl (any_of HT_.out (by kernel_rfl)) (fun _ _ _ h => h) (Or.inl ⟨by rfl, ?_⟩) ?_ ?_; rotate_left
                    ·intro w'
                     go_simp; with_reducible rfl
                    rotate_left
                    ·simp only [Act.put, qI, qz, qs, qi, qj]
                     rfl
                    exact norm_ (by simp only [putAll, Act.put, qI, qz, qs]) (hCont (gb338) _ ⟨bk, bk, GW338.out, GE338.out, NB332_338.out, NB338_332.out, bl⟩)
                  rintro gb338 w270 ⟨h0_, h1_, h2_, h3_, h4_, h5_, h6_⟩; have n0_ : Aside0 (w270.heap[gb332]? = some (.cells #[.int .i64 t327, .bool t328, .string t329, .string t330] 26 (0, 0))) := ⟨h0_⟩; have n1_ : Aside0 (w270.heap[gb338]? = some (.cells #[.int .i64 0, .bool false, .string (⟨#[]⟩ : ByteArray), .string (⟨#[]⟩ : ByteArray)] 26 (0, 0))) := ⟨h1_⟩; have n2_ : Aside0 (w.heap.size ≤ gb338) := ⟨h2_⟩; have n3_ : Aside0 (w.heap.size ≤ gb338) := ⟨h3_⟩; have n4_ : Aside0 (gb332 ≠ gb338) := ⟨h4_⟩; have n5_ : Aside0 (gb338 ≠ gb332) := ⟨h5_⟩; have n6_ : Aside0 (Below w.heap.size w w270) := ⟨h6_⟩; clear BK332; clear HB; clear h0_ h1_ h2_ h3_ h4_ h5_ h6_; have BK332 := n0_; have BK338 := n1_; have GW338 := n2_; have GE338 := n3_; have NB332_338 := n4_; have NB338_332 := n5_; have HB := n6_; clear n0_ n1_ n2_ n3_ n4_ n5_ n6_; have hHeld := trivial; refine norm_ (a' := ?_) ?_ ?_; rotate_left
                  ·simp only [putAll, Act.put, qI, qz, qs]
                   rfl
                  refine one_ (i := 14) (N := none) #[true, true, true, true, true, true, true, true, true, true, true, true, true, true, true, false] rfl rfl (one_of HT_.out (by kernel_rfl)) (by decide) (fun K hK => ?_); have hs271 : w270.cell? ⟨gb338, 0, none⟩ = some (.int .i64 0) := (blk_cell BK338.out 0).trans rfl; have hfs271 := blk_frozen BK338.out 0; have hns271_0 := NB332_338.out; have hms271_0 := NB338_332.out; have hs272 : w270.cell? ⟨gb338, 1, none⟩ = some (.bool false) := (blk_cell BK338.out 1).trans rfl; have hfs272 := blk_frozen BK338.out 1; have hns272_0 := NB332_338.out; have hms272_0 := NB338_332.out; have hs273 : w270.cell? ⟨gb338, 2, none⟩ = some (.string (⟨#[]⟩ : ByteArray)) := (blk_cell BK338.out 2).trans rfl; have hfs273 := blk_frozen BK338.out 2; have hns273_0 := NB332_338.out; have hms273_0 := NB338_332.out; have hs274 : w270.cell? ⟨gb338, 3, none⟩ = some (.string (⟨#[]⟩ : ByteArray)) := (blk_cell BK338.out 3).trans rfl; have hfs274 := blk_frozen BK338.out 3; have hns274_0 := NB332_338.out; have hms274_0 := NB338_332.out; refine skip_ (w1 := ?_) (by rfl) rfl ?_ ?_; rotate_left
                  ·go_simp
                   rfl
                  refine hK.out _ _ trivial (fun hHeld => ?_); clear hK K; refine pure_ (i := 15) (N := some 16) (v := ?_) (a' := ?_) #[true, true, true, true, true, true, true, true, true, true, true, true, true, true, true, true] rfl rfl (any_of HT_.out (by kernel_rfl)) (fun _ _ _ h => h) (Or.inl ⟨by rfl, ?_⟩) ?_ ?_; rotate_left
                  ·intro w'
                   go_simp; with_reducible rfl
                  rotate_left
                  ·simp only [Act.put, qI, qz, qs, qi, qj]
                   rfl
                  refine done_ (done_of HT_.out (by kernel_rfl)) ?_; try go_wp2
                  have n0_ : Aside0 (((((w270.setCell ⟨gb338, 0, none⟩ (.int .i64 t333)).setCell ⟨gb338, 1, none⟩ (.bool t334)).setCell ⟨gb338, 2, none⟩ (.string t335)).setCell ⟨gb338, 3, none⟩ (.string t336)).heap[gb332]? = some (.cells #[.int .i64 t327, .bool t328, .string t329, .string t330] 26 (0, 0))) := ⟨by (with_reducible repeat (first | refine vN ?_ _ | refine vD ?_ | refine vA ?_ _)); refine blk_far ?_ NB332_338.out _; (with_reducible repeat (first | refine vN ?_ _ | refine vD ?_ | refine vA ?_ _)); refine blk_far ?_ NB332_338.out _; (with_reducible repeat (first | refine vN ?_ _ | refine vD ?_ | refine vA ?_ _)); refine blk_far ?_ NB332_338.out _; (with_reducible repeat (first | refine vN ?_ _ | refine vD ?_ | refine vA ?_ _)); refine blk_far ?_ NB332_338.out _; (with_reducible repeat (first | refine vN ?_ _ | refine vD ?_ | refine vA ?_ _)); exact BK332.out⟩; have n1_ : Aside0 (((((w270.setCell ⟨gb338, 0, none⟩ (.int .i64 t333)).setCell ⟨gb338, 1, none⟩ (.bool t334)).setCell ⟨gb338, 2, none⟩ (.string t335)).setCell ⟨gb338, 3, none⟩ (.string t336)).heap[gb338]? = some (.cells #[.int .i64 t333, .bool t334, .string t335, .string t336] 26 (0, 0))) := ⟨by (with_reducible repeat (first | refine vN ?_ _ | refine vD ?_ | refine vA ?_ _)); refine blk_put (cs := #[.int .i64 t333, .bool t334, .string t335, .string (⟨#[]⟩ : ByteArray)]) ?_ 3 _ rfl; (with_reducible repeat (first | refine vN ?_ _ | refine vD ?_ | refine vA ?_ _)); refine blk_put (cs := #[.int .i64 t333, .bool t334, .string (⟨#[]⟩ : ByteArray), .string (⟨#[]⟩ : ByteArray)]) ?_ 2 _ rfl; (with_reducible repeat (first | refine vN ?_ _ | refine vD ?_ | refine vA ?_ _)); refine blk_put (cs := #[.int .i64 t333, .bool false, .string (⟨#[]⟩ : ByteArray), .string (⟨#[]⟩ : ByteArray)]) ?_ 1 _ rfl; (with_reducible repeat (first | refine vN ?_ _ | refine vD ?_ | refine vA ?_ _)); refine blk_put (cs := #[.int .i64 0, .bool false, .string (⟨#[]⟩ : ByteArray), .string (⟨#[]⟩ : ByteArray)]) ?_ 0 _ rfl; (with_reducible repeat (first | refine vN ?_ _ | refine vD ?_ | refine vA ?_ _)); exact BK338.out⟩; have n2_ : Aside0 (Below w.heap.size w ((((w270.setCell ⟨gb338, 0, none⟩ (.int .i64 t333)).setCell ⟨gb338, 1, none⟩ (.bool t334)).setCell ⟨gb338, 2, none⟩ (.string t335)).setCell ⟨gb338, 3, none⟩ (.string t336))) := ⟨bl⟩; (try clear BK332); (try clear BK338); (try clear HB); generalize ((((w270.setCell ⟨gb338, 0, none⟩ (.int .i64 t333)).setCell ⟨gb338, 1, none⟩ (.bool t334)).setCell ⟨gb338, 2, none⟩ (.string t335)).setCell ⟨gb338, 3, none⟩ (.string t336)) = w275 at n0_ n1_ n2_ ⊢; have BK332 := n0_; have BK338 := n1_; have HB := n2_; clear n0_ n1_ n2_; have n0_ := AM (vD BK332.out); have n1_ := AM (vD BK338.out); have n2_ := AM (wD HB.out)
                  clear BK332; clear BK338; clear HB; have BK332 := n0_; have BK338 := n1_; have HB := n2_; clear n0_ n1_ n2_; refine start_ (n := 17) (S := fun w' => True) (ds := []) #[false, false, false, false, false, false, false, false, false, false, false, false, false, false, false, false, false] (by kernel_rfl) rfl rfl trivial (fun hHeld => ?_); refine with_tabW targumlaw7_Float11Gaps.tab14 targumlaw7_Float11Gaps.bits14 (fun HT_ HW_ => ?_); generalize w275.drew = w276 at BK332 BK338 HB hHeld ⊢; refine pure_ (i := 0) (N := some 76) (v := ?_) (a' := ?_) #[true, false, false, false, false, false, false, false, false, false, false, false, false, false, false, false, false] rfl rfl (any_of HT_.out (by kernel_rfl)) (fun _ _ _ h => h) (Or.inl ⟨by rfl, ?_⟩) ?_ ?_; rotate_left
                  ·intro w'
                   go_simp; with_reducible rfl
                  rotate_left
                  ·simp only [Act.put, qI, qz, qs, qi, qj]
                   rfl
                  refine pure_ (i := 1) (N := some 77) (v := ?_) (a' := ?_) #[true, true, false, false, false, false, false, false, false, false, false, false, false, false, false, false, false] rfl rfl (any_of HT_.out (by kernel_rfl)) (fun _ _ _ h => h) (Or.inl ⟨by rfl, ?_⟩) ?_ ?_; rotate_left
                  ·intro w'
                   go_simp; with_reducible rfl
                  rotate_left
                  ·simp only [Act.put, qI, qz, qs, qi, qj]
                   rfl
                  refine pure_ (i := 2) (N := some 78) (v := ?_) (a' := ?_) #[true, true, true, false, false, false, false, false, false, false, false, false, false, false, false, false, false] rfl rfl (any_of HT_.out (by kernel_rfl)) (fun _ _ _ h => h) (Or.inl ⟨by rfl, ?_⟩) ?_ ?_; rotate_left
                  ·intro w'
                   go_simp; with_reducible rfl
                  rotate_left
                  ·simp only [Act.put, qI, qz, qs, qi, qj]
                   rfl
                  refine pure_ (i := 3) (N := some 79) (v := ?_) (a' := ?_) #[true, true, true, true, false, false, false, false, false, false, false, false, false, false, false, false, false] rfl rfl (any_of HT_.out (by kernel_rfl)) (fun _ _ _ h => h) (Or.inl ⟨by rfl, ?_⟩) ?_ ?_; rotate_left
                  ·intro w'
                   go_simp; with_reducible rfl
                  rotate_left
                  ·simp only [Act.put, qI, qz, qs, qi, qj]
                   rfl
                  refine pure_ (i := 4) (N := some 80) (v := ?_) (a' := ?_) #[true, true, true, true, true, false, false, false, false, false, false, false, false, false, false, false, false] rfl rfl (any_of HT_.out (by kernel_rfl)) (fun _ _ _ h => h) (Or.inl ⟨by rfl, ?_⟩) ?_ ?_; rotate_left
                  ·intro w'
                   go_simp; with_reducible rfl
                  rotate_left
                  ·simp only [Act.put, qI, qz, qs, qi, qj]
                   rfl
                  refine pure_ (i := 5) (N := some 81) (v := ?_) (a' := ?_) #[true, true, true, true, true, true, false, false, false, false, false, false, false, false, false, false, false] rfl rfl (any_of HT_.out (by kernel_rfl)) (fun _ _ _ h => h) (Or.inl ⟨by rfl, ?_⟩) ?_ ?_; rotate_left
                  ·intro w'
                   go_simp; with_reducible rfl
                  rotate_left
                  ·simp only [Act.put, qI, qz, qs, qi, qj]
                   rfl
                  refine pure_ (i := 6) (N := some 82) (v := ?_) (a' := ?_) #[true, true, true, true, true, true, true, false, false, false, false, false, false, false, false, false, false] rfl rfl (any_of HT_.out (by kernel_rfl)) (fun _ _ _ h => h) (Or.inl ⟨by rfl, ?_⟩) ?_ ?_; rotate_left
                  ·intro w'
                   go_simp; with_reducible rfl
                  rotate_left
                  ·simp only [Act.put, qI, qz, qs, qi, qj]
                   rfl
                  refine pure_ (i := 7) (N := some 83) (v := ?_) (a' := ?_) #[true, true, true, true, true, true, true, true, false, false, false, false, false, false, false, false, false] rfl rfl (any_of HT_.out (by kernel_rfl)) (fun _ _ _ h => h) (Or.inl ⟨by rfl, ?_⟩) ?_ ?_; rotate_left
                  ·intro w'
                   go_simp; with_reducible rfl
                  rotate_left
                  ·simp only [Act.put, qI, qz, qs, qi, qj]
                   rfl
                  refine pure_ (i := 8) (N := some 84) (v := ?_) (a' := ?_) #[true, true, true, true, true, true, true, true, true, false, false, false, false, false, false, false, false] rfl rfl (any_of HT_.out (by kernel_rfl)) (fun _ _ _ h => h) (Or.inl ⟨by rfl, ?_⟩) ?_ ?_; rotate_left
                  ·intro w'
                   go_simp; with_reducible rfl
                  rotate_left
                  ·simp only [Act.put, qI, qz, qs, qi, qj]
                   rfl
                  refine pure_ (i := 9) (N := some 85) (v := ?_) (a' := ?_) #[true, true, true, true, true, true, true, true, true, true, false, false, false, false, false, false, false] rfl rfl (any_of HT_.out (by kernel_rfl)) (fun _ _ _ h => h) (Or.inl ⟨by rfl, ?_⟩) ?_ ?_; rotate_left
                  ·intro w'
                   go_simp; with_reducible rfl
                  rotate_left
                  ·simp only [Act.put, qI, qz, qs, qi, qj]
                   rfl
                  refine join_ (σ := Nat) 2 #[true, true, true, true, true, true, true, true, true, true, true, true, true, true, true, false, false] (fun s_ => [(86, .tuple #[.agg #[.int .i64 t339, .bool t340, .string t341, .string t342], .bool t343]), (17, .pointer (some ⟨s_, 0, none⟩)), (75, .tuple #[.agg #[.int .i64 t339, .bool t340, .string t341, .string t342], .bool t343]), (87, .agg #[.int .i64 t339, .bool t340, .string t341, .string t342]), (88, .bool t343)]) (fun s_ w' => (w'.heap[gb332]? = some (.cells #[.int .i64 t327, .bool t328, .string t329, .string t330] 26 (0, 0))) ∧ (w'.heap[gb338]? = some (.cells #[.int .i64 t333, .bool t334, .string t335, .string t336] 26 (0, 0))) ∧ (w'.heap[s_]? = some (.cells #[.int .i64 0, .bool false, .string (⟨#[]⟩ : ByteArray), .string (⟨#[]⟩ : ByteArray)] 26 (0, 0))) ∧ (w.heap.size ≤ s_) ∧ (w.heap.size ≤ s_) ∧ (gb332 ≠ s_) ∧ (s_ ≠ gb332) ∧ (gb338 ≠ s_) ∧ (s_ ≠ gb338) ∧ (Below w.heap.size w w')) ?_ ?_; rotate_left
                  ·as_aux_lemma =>
                   intro hCont; refine two_ (i := 10) (j := 14) (Ni := some 86) (Nj := some 17) #[true, true, true, true, true, true, true, true, true, true, true, false, false, false, false, false, false] #[true, true, true, true, true, true, true, true, true, true, false, false, false, false, true, false, false] rfl rfl rfl rfl (two_of HT_.out (by kernel_rfl)) (by decide) (by decide) (fun K hK => ?_) (fun K hK => ?_)
                   ·skip
                    refine goes_ Tryz.func8 (by kernel_rfl) rfl #[.string ((((js1.extract 0 ((ji22) : Int).toNat) ++ x11_2) ++ (js1.extract ((ji22) : Int).toNat js1.size)) ++ (⟨#[101, 45, 55]⟩ : ByteArray))] (by rfl) rfl rfl (by (try simp only [qT, qC, qN]); first | done | (simp only [hji22]; rfl) | rfl | (simp only [qD, qU]; rfl)) ?_; with_reducible refine (float11_Of.calls k2 ((((js1.extract 0 ((ji22) : Int).toNat) ++ x11_2) ++ (js1.extract ((ji22) : Int).toNat js1.size)) ++ (⟨#[101, 45, 55]⟩ : ByteArray)) t339 t340 t341 t342 t343 _ ?side1 A35.out).mono ?_; (case side1 => exact Go.Proofs.YtkijneohhilboaaGreatDoor.PKT.Tabs_below HG.out bl); rintro e w277 ⟨rfl, hb⟩; refine ⟨_, rfl, ?_⟩; replace BK332 := AM (blk_below (g := gb332) (o := .cells #[.int .i64 t327, .bool t328, .string t329, .string t330] 26 (0, 0)) bk hb); replace BK338 := AM (blk_below (g := gb338) (o := .cells #[.int .i64 t333, .bool t334, .string t335, .string t336] 26 (0, 0)) bk hb); replace HB := AM (below_step bl hb); (try clear hb); refine hK.out _ _ trivial (fun hHeld => ?_); clear hK K; refine norm_ (a' := ?_) ?_ ?_; rotate_left
                    ·show Act.put _ (some 86) _ = _
                     simp only [Act.put, qI, qz, qs, qi, qj]; rfl
                    refine pure_ (i := 11) (N := some 75) (v := ?_) (a' := ?_) #[true, true, true, true, true, true, true, true, true, true, true, true, false, false, false, false, false] rfl rfl (any_of HT_.out (by kernel_rfl)) (fun _ _ _ h => h) (Or.inl ⟨by rfl, ?_⟩) ?_ ?_; rotate_left
                    ·intro w'
                     go_simp; with_reducible rfl
                    rotate_left
                    ·simp only [Act.put, qI, qz, qs, qi, qj]
                     rfl
                    refine pure_ (i := 12) (N := some 87) (v := ?_) (a' := ?_) #[true, true, true, true, true, true, true, true, true, true, true, true, true, false, false, false, false] rfl rfl (any_of HT_.out (by kernel_rfl)) (fun _ _ _ h => h) (Or.inl ⟨by rfl, ?_⟩) ?_ ?_; rotate_left
                    ·intro w'
                     go_simp; with_reducible rfl
                    rotate_left
                    ·simp only [Act.put, qI, qz, qs, qi, qj]
                     rfl
                    refine pure_ (i := 13) (N := some 88) (v := ?_) (a' := ?_) #[true, true, true, true, true, true, true, true, true, true, true, true, true, true, false, false, false] rfl rfl (any_of HT_.out (by kernel_rfl)) (fun _ _ _ h => h) (Or.inl ⟨by rfl, ?_⟩) ?_ ?_; rotate_left
                    ·intro w'
                     go_simp; with_reducible rfl
                    rotate_left
                    ·simp only [Act.put, qI, qz, qs, qi, qj]
                     rfl
                    refine one_ (i := 14) (N := some 17) #[true, true, true, true, true, true, true, true, true, true, true, true, true, true, true, false, false] rfl rfl (one_of HT_.out (by kernel_rfl)) (by decide) (fun K hK => ?_); refine box_step ?hg (N := 17) ?hd (cs := #[.int .i64 0, .bool false, .string (⟨#[]⟩ : ByteArray), .string (⟨#[]⟩ : ByteArray)]) (t := 26) ?hr ?_; (case hd => rfl); (case hg => rfl); (case hr => first | (go_simp; done) | (go_simp; rfl)); intro gb344 hg w278 hbox hb; have NB332_344 := AM ((by rw [hg]; exact Nat.ne_of_lt (blk_lt (g := gb332) (o := .cells #[.int .i64 t327, .bool t328, .string t329, .string t330] 26 (0, 0)) bk) : gb332 ≠ gb344)); have NB344_332 := AM (Ne.symm NB332_344.out); have NB338_344 := AM ((by rw [hg]; exact Nat.ne_of_lt (blk_lt (g := gb338) (o := .cells #[.int .i64 t333, .bool t334, .string t335, .string t336] 26 (0, 0)) bk) : gb338 ≠ gb344)); have NB344_338 := AM (Ne.symm NB338_344.out); have GW344 := gq (w := w) hg; have GE344 := GW344; replace BK332 := AM (blk_below (g := gb332) (o := .cells #[.int .i64 t327, .bool t328, .string t329, .string t330] 26 (0, 0)) bk hb); replace BK338 := AM (blk_below (g := gb338) (o := .cells #[.int .i64 t333, .bool t334, .string t335, .string t336] 26 (0, 0)) bk hb); replace HB := AM (below_step bl hb); have BK344 := AM (hbox); clear hb hbox hg; refine hK.out _ _ trivial (fun hHeld => ?_); clear hK K; refine norm_ (a' := ?_) ?_ ?_; rotate_left
                    ·show Act.put _ (some 17) _ = _
                     simp only [Act.put, qI, qz, qs, qi, qj]; rfl
                    exact norm_ (by simp only [putAll, Act.put, qI, qz, qs]) (hCont (gb344) _ ⟨bk, bk, bk, GW344.out, GE344.out, NB332_344.out, NB344_332.out, NB338_344.out, NB344_338.out, bl⟩)
                   ·skip
                    refine box_step ?hg (N := 17) ?hd (cs := #[.int .i64 0, .bool false, .string (⟨#[]⟩ : ByteArray), .string (⟨#[]⟩ : ByteArray)]) (t := 26) ?hr ?_; (case hd => rfl); (case hg => rfl); (case hr => first | (go_simp; done) | (go_simp; rfl)); intro gb344 hg w277 hbox hb; have NB332_344 := AM ((by rw [hg]; exact Nat.ne_of_lt (blk_lt (g := gb332) (o := .cells #[.int .i64 t327, .bool t328, .string t329, .string t330] 26 (0, 0)) bk) : gb332 ≠ gb344)); have NB344_332 := AM (Ne.symm NB332_344.out); have NB338_344 := AM ((by rw [hg]; exact Nat.ne_of_lt (blk_lt (g := gb338) (o := .cells #[.int .i64 t333, .bool t334, .string t335, .string t336] 26 (0, 0)) bk) : gb338 ≠ gb344)); have NB344_338 := AM (Ne.symm NB338_344.out); have GW344 := gq (w := w) hg; have GE344 := GW344; replace BK332 := AM (blk_below (g := gb332) (o := .cells #[.int .i64 t327, .bool t328, .string t329, .string t330] 26 (0, 0)) bk hb); replace BK338 := AM (blk_below (g := gb338) (o := .cells #[.int .i64 t333, .bool t334, .string t335, .string t336] 26 (0, 0)) bk hb); replace HB := AM (below_step bl hb); have BK344 := AM (hbox); clear hb hbox hg; refine hK.out _ _ trivial (fun hHeld => ?_); clear hK K; refine norm_ (a' := ?_) ?_ ?_; rotate_left
                    ·show Act.put _ (some 17) _ = _
                     simp only [Act.put, qI, qz, qs, qi, qj]; rfl
                    refine one_ (i := 10) (N := some 86) #[true, true, true, true, true, true, true, true, true, true, true, false, false, false, true, false, false] rfl rfl (one_of HT_.out (by kernel_rfl)) (by decide) (fun K hK => ?_); refine goes_ Tryz.func8 (by kernel_rfl) rfl #[.string ((((js1.extract 0 ((ji22) : Int).toNat) ++ x11_2) ++ (js1.extract ((ji22) : Int).toNat js1.size)) ++ (⟨#[101, 45, 55]⟩ : ByteArray))] (by rfl) rfl rfl (by (try simp only [qT, qC, qN]); first | done | (simp only [hji22]; rfl) | rfl | (simp only [qD, qU]; rfl)) ?_; with_reducible refine (float11_Of.calls k2 ((((js1.extract 0 ((ji22) : Int).toNat) ++ x11_2) ++ (js1.extract ((ji22) : Int).toNat js1.size)) ++ (⟨#[101, 45, 55]⟩ : ByteArray)) t339 t340 t341 t342 t343 _ ?side1 A35.out).mono ?_; (case side1 => exact Go.Proofs.YtkijneohhilboaaGreatDoor.PKT.Tabs_below HG.out bl); rintro e w278 ⟨rfl, hb⟩; refine ⟨_, rfl, ?_⟩; replace BK332 := AM (blk_below (g := gb332) (o := .cells #[.int .i64 t327, .bool t328, .string t329, .string t330] 26 (0, 0)) bk hb); replace BK338 := AM (blk_below (g := gb338) (o := .cells #[.int .i64 t333, .bool t334, .string t335, .string t336] 26 (0, 0)) bk hb); replace BK344 := AM (blk_below (g := gb344) (o := .cells #[.int .i64 0, .bool false, .string (⟨#[]⟩ : ByteArray), .string (⟨#[]⟩ : ByteArray)] 26 (0, 0)) bk hb); replace HB := AM (below_step bl hb); (try clear hb); refine hK.out _ _ trivial (fun hHeld => ?_); clear hK K; refine norm_ (a' := ?_) ?_ ?_; rotate_left
                    ·show Act.put _ (some 86) _ = _
                     simp only [Act.put, qI, qz, qs, qi, qj]; rfl
                    refine pure_ (i := 11) (N := some 75) (v := ?_) (a' := ?_) #[true, true, true, true, true, true, true, true, true, true, true, true, false, false, true, false, false] rfl rfl (any_of HT_.out (by kernel_rfl)) (fun _ _ _ h => h) (Or.inl ⟨by rfl, ?_⟩) ?_ ?_; rotate_left
                    ·intro w'
                     go_simp; with_reducible rfl
                    rotate_left
                    ·simp only [Act.put, qI, qz, qs, qi, qj]
                     rfl
                    refine pure_ (i := 12) (N := some 87) (v := ?_) (a' := ?_) #[true, true, true, true, true, true, true, true, true, true, true, true, true, false, true, false, false] rfl rfl (any_of HT_.out (by kernel_rfl)) (fun _ _ _ h => h) (Or.inl ⟨by rfl, ?_⟩) ?_ ?_; rotate_left
                    ·intro w'
                     go_simp; with_reducible rfl
                    rotate_left
                    ·simp only [Act.put, qI, qz, qs, qi, qj]
                     rfl
                    refine pure_ (i := 13) (N := some 88) (v := ?_) (a' := ?_) #[true, true, true, true, true, true, true, true, true, true, true, true, true, true, true, false, false] rfl rfl (any_of HT_.out (by kernel_rfl)) (fun _ _ _ h => h) (Or.inl ⟨by rfl, ?_⟩) ?_ ?_; rotate_left
                    ·intro w'
                     go_simp; with_reducible rfl
                    rotate_left
                    ·simp only [Act.put, qI, qz, qs, qi, qj]
                     rfl
                    exact norm_ (by simp only [putAll, Act.put, qI, qz, qs]) (hCont (gb344) _ ⟨bk, bk, bk, GW344.out, GE344.out, NB332_344.out, NB344_332.out, NB338_344.out, NB344_338.out, bl⟩)
                  rintro gb344 w279 ⟨h0_, h1_, h2_, h3_, h4_, h5_, h6_, h7_, h8_, h9_⟩; have n0_ : Aside0 (w279.heap[gb332]? = some (.cells #[.int .i64 t327, .bool t328, .string t329, .string t330] 26 (0, 0))) := ⟨h0_⟩; have n1_ : Aside0 (w279.heap[gb338]? = some (.cells #[.int .i64 t333, .bool t334, .string t335, .string t336] 26 (0, 0))) := ⟨h1_⟩; have n2_ : Aside0 (w279.heap[gb344]? = some (.cells #[.int .i64 0, .bool false, .string (⟨#[]⟩ : ByteArray), .string (⟨#[]⟩ : ByteArray)] 26 (0, 0))) := ⟨h2_⟩; have n3_ : Aside0 (w.heap.size ≤ gb344) := ⟨h3_⟩; have n4_ : Aside0 (w.heap.size ≤ gb344) := ⟨h4_⟩; have n5_ : Aside0 (gb332 ≠ gb344) := ⟨h5_⟩; have n6_ : Aside0 (gb344 ≠ gb332) := ⟨h6_⟩; have n7_ : Aside0 (gb338 ≠ gb344) := ⟨h7_⟩; have n8_ : Aside0 (gb344 ≠ gb338) := ⟨h8_⟩; have n9_ : Aside0 (Below w.heap.size w w279) := ⟨h9_⟩; clear BK332; clear BK338; clear HB; clear h0_ h1_ h2_ h3_ h4_ h5_ h6_ h7_ h8_ h9_; have BK332 := n0_; have BK338 := n1_; have BK344 := n2_; have GW344 := n3_; have GE344 := n4_; have NB332_344 := n5_; have NB344_332 := n6_; have NB338_344 := n7_; have NB344_338 := n8_; have HB := n9_; clear n0_ n1_ n2_ n3_ n4_ n5_ n6_ n7_ n8_ n9_; have hHeld := trivial; refine norm_ (a' := ?_) ?_ ?_; rotate_left
                  ·simp only [putAll, Act.put, qI, qz, qs]
                   rfl
                  refine one_ (i := 15) (N := none) #[true, true, true, true, true, true, true, true, true, true, true, true, true, true, true, true, false] rfl rfl (one_of HT_.out (by kernel_rfl)) (by decide) (fun K hK => ?_); have hs280 : w279.cell? ⟨gb344, 0, none⟩ = some (.int .i64 0) := (blk_cell BK344.out 0).trans rfl; have hfs280 := blk_frozen BK344.out 0; have hns280_0 := NB332_344.out; have hns280_1 := NB338_344.out; have hms280_0 := NB344_332.out; have hms280_1 := NB344_338.out; have hs281 : w279.cell? ⟨gb344, 1, none⟩ = some (.bool false) := (blk_cell BK344.out 1).trans rfl; have hfs281 := blk_frozen BK344.out 1; have hns281_0 := NB332_344.out; have hns281_1 := NB338_344.out; have hms281_0 := NB344_332.out; have hms281_1 := NB344_338.out; have hs282 : w279.cell? ⟨gb344, 2, none⟩ = some (.string (⟨#[]⟩ : ByteArray)) := (blk_cell BK344.out 2).trans rfl; have hfs282 := blk_frozen BK344.out 2; have hns282_0 := NB332_344.out; have hns282_1 := NB338_344.out; have hms282_0 := NB344_332.out; have hms282_1 := NB344_338.out; have hs283 : w279.cell? ⟨gb344, 3, none⟩ = some (.string (⟨#[]⟩ : ByteArray)) := (blk_cell BK344.out 3).trans rfl; have hfs283 := blk_frozen BK344.out 3; have hns283_0 := NB332_344.out; have hns283_1 := NB338_344.out; have hms283_0 := NB344_332.out; have hms283_1 := NB344_338.out; refine skip_ (w1 := ?_) (by rfl) rfl ?_ ?_; rotate_left
                  ·go_simp
                   rfl
                  refine hK.out _ _ trivial (fun hHeld => ?_); clear hK K; refine pure_ (i := 16) (N := some 18) (v := ?_) (a' := ?_) #[true, true, true, true, true, true, true, true, true, true, true, true, true, true, true, true, true] rfl rfl (any_of HT_.out (by kernel_rfl)) (fun _ _ _ h => h) (Or.inl ⟨by rfl, ?_⟩) ?_ ?_; rotate_left
                  ·intro w'
                   go_simp; with_reducible rfl
                  rotate_left
                  ·simp only [Act.put, qI, qz, qs, qi, qj]
                   rfl
                  refine done_ (done_of HT_.out (by kernel_rfl)) ?_; skip
                case' y16 =>
                 replace c39 := Bool.eq_false_iff.mpr c39; subst c39; have H1 : (some false) = some r := by rw [if_neg (show ¬ (false = true) by decide)] at H; exact H
                 clear H; have H := H1; clear H1; obtain rfl := Option.some.inj H; refine start_ (n := 16) (S := fun w' => True) (ds := []) #[false, false, false, false, false, false, false, false, false, false, false, false, false, false, false, false] (by kernel_rfl) rfl rfl trivial (fun hHeld => ?_); refine with_tabW targumlaw7_Float11Gaps.tab13 targumlaw7_Float11Gaps.bits13 (fun HT_ HW_ => ?_); generalize w52.drew = w296 at BK332 HB hHeld ⊢; refine pure_ (i := 0) (N := some 63) (v := ?_) (a' := ?_) #[true, false, false, false, false, false, false, false, false, false, false, false, false, false, false, false] rfl rfl (any_of HT_.out (by kernel_rfl)) (fun _ _ _ h => h) (Or.inl ⟨by rfl, ?_⟩) ?_ ?_; rotate_left
                 ·intro w'
                  go_simp; with_reducible rfl
                 rotate_left
                 ·simp only [Act.put, qI, qz, qs, qi, qj]
                  rfl
                 refine pure_ (i := 1) (N := some 64) (v := ?_) (a' := ?_) #[true, true, false, false, false, false, false, false, false, false, false, false, false, false, false, false] rfl rfl (any_of HT_.out (by kernel_rfl)) (fun _ _ _ h => h) (Or.inl ⟨by rfl, ?_⟩) ?_ ?_; rotate_left
                 ·intro w'
                  go_simp; with_reducible rfl
                 rotate_left
                 ·simp only [Act.put, qI, qz, qs, qi, qj]
                  rfl
                 refine pure_ (i := 2) (N := some 65) (v := ?_) (a' := ?_) #[true, true, true, false, false, false, false, false, false, false, false, false, false, false, false, false] rfl rfl (any_of HT_.out (by kernel_rfl)) (fun _ _ _ h => h) (Or.inl ⟨by rfl, ?_⟩) ?_ ?_; rotate_left
                 ·intro w'
                  go_simp; with_reducible rfl
                 rotate_left
                 ·simp only [Act.put, qI, qz, qs, qi, qj]
                  rfl
                 refine pure_ (i := 3) (N := some 66) (v := ?_) (a' := ?_) #[true, true, true, true, false, false, false, false, false, false, false, false, false, false, false, false] rfl rfl (any_of HT_.out (by kernel_rfl)) (fun _ _ _ h => h) (Or.inl ⟨by rfl, ?_⟩) ?_ ?_; rotate_left
                 ·intro w'
                  go_simp; with_reducible rfl
                 rotate_left
                 ·simp only [Act.put, qI, qz, qs, qi, qj]
                  rfl
                 refine pure_ (i := 4) (N := some 67) (v := ?_) (a' := ?_) #[true, true, true, true, true, false, false, false, false, false, false, false, false, false, false, false] rfl rfl (any_of HT_.out (by kernel_rfl)) (fun _ _ _ h => h) (Or.inl ⟨by rfl, ?_⟩) ?_ ?_; rotate_left
                 ·intro w'
                  go_simp; with_reducible rfl
                 rotate_left
                 ·simp only [Act.put, qI, qz, qs, qi, qj]
                  rfl
                 refine pure_ (i := 5) (N := some 68) (v := ?_) (a' := ?_) #[true, true, true, true, true, true, false, false, false, false, false, false, false, false, false, false] rfl rfl (any_of HT_.out (by kernel_rfl)) (fun _ _ _ h => h) (Or.inl ⟨by rfl, ?_⟩) ?_ ?_; rotate_left
                 ·intro w'
                  go_simp; with_reducible rfl
                 rotate_left
                 ·simp only [Act.put, qI, qz, qs, qi, qj]
                  rfl
                 refine pure_ (i := 6) (N := some 69) (v := ?_) (a' := ?_) #[true, true, true, true, true, true, true, false, false, false, false, false, false, false, false, false] rfl rfl (any_of HT_.out (by kernel_rfl)) (fun _ _ _ h => h) (Or.inl ⟨by rfl, ?_⟩) ?_ ?_; rotate_left
                 ·intro w'
                  go_simp; with_reducible rfl
                 rotate_left
                 ·simp only [Act.put, qI, qz, qs, qi, qj]
                  rfl
                 refine pure_ (i := 7) (N := some 70) (v := ?_) (a' := ?_) #[true, true, true, true, true, true, true, true, false, false, false, false, false, false, false, false] rfl rfl (any_of HT_.out (by kernel_rfl)) (fun _ _ _ h => h) (Or.inl ⟨by rfl, ?_⟩) ?_ ?_; rotate_left
                 ·intro w'
                  go_simp; with_reducible rfl
                 rotate_left
                 ·simp only [Act.put, qI, qz, qs, qi, qj]
                  rfl
                 refine pure_ (i := 8) (N := some 71) (v := ?_) (a' := ?_) #[true, true, true, true, true, true, true, true, true, false, false, false, false, false, false, false] rfl rfl (any_of HT_.out (by kernel_rfl)) (fun _ _ _ h => h) (Or.inl ⟨by rfl, ?_⟩) ?_ ?_; rotate_left
                 ·intro w'
                  go_simp; with_reducible rfl
                 rotate_left
                 ·simp only [Act.put, qI, qz, qs, qi, qj]
                  rfl
                 refine join_ (σ := Nat) 2 #[true, true, true, true, true, true, true, true, true, true, true, true, true, true, false, false] (fun s_ => [(72, .tuple #[.agg #[.int .i64 t333, .bool t334, .string t335, .string t336], .bool t337]), (15, .pointer (some ⟨s_, 0, none⟩)), (62, .tuple #[.agg #[.int .i64 t333, .bool t334, .string t335, .string t336], .bool t337]), (73, .agg #[.int .i64 t333, .bool t334, .string t335, .string t336]), (74, .bool t337)]) (fun s_ w' => (w'.heap[gb332]? = some (.cells #[.int .i64 t327, .bool t328, .string t329, .string t330] 26 (0, 0))) ∧ (w'.heap[s_]? = some (.cells #[.int .i64 0, .bool false, .string (⟨#[]⟩ : ByteArray), .string (⟨#[]⟩ : ByteArray)] 26 (0, 0))) ∧ (w.heap.size ≤ s_) ∧ (w.heap.size ≤ s_) ∧ (gb332 ≠ s_) ∧ (s_ ≠ gb332) ∧ (Below w.heap.size w w')) ?_ ?_; rotate_left
                 ·as_aux_lemma =>
                  intro hCont; refine two_ (i := 9) (j := 13) (Ni := some 72) (Nj := some 15) #[true, true, true, true, true, true, true, true, true, true, false, false, false, false, false, false] #[true, true, true, true, true, true, true, true, true, false, false, false, false, true, false, false] rfl rfl rfl rfl (two_of HT_.out (by kernel_rfl)) (by decide) (by decide) (fun K hK => ?_) (fun K hK => ?_)
                  ·skip
                   refine goes_ Tryz.func8 (by kernel_rfl) rfl #[.string (((js1.extract 0 ((ji22) : Int).toNat) ++ x11_2) ++ (js1.extract ((ji22) : Int).toNat js1.size))] (by rfl) rfl rfl (by (try simp only [qT, qC, qN]); first | done | (simp only [hji22]; rfl) | rfl | (simp only [qD, qU]; rfl)) ?_; with_reducible refine (float11_Of.calls k2 (((js1.extract 0 ((ji22) : Int).toNat) ++ x11_2) ++ (js1.extract ((ji22) : Int).toNat js1.size)) t333 t334 t335 t336 t337 _ ?side1 A29.out).mono ?_; (case side1 => exact Go.Proofs.YtkijneohhilboaaGreatDoor.PKT.Tabs_below HG.out bl); rintro e w297 ⟨rfl, hb⟩; refine ⟨_, rfl, ?_⟩; replace BK332 := AM (blk_below (g := gb332) (o := .cells #[.int .i64 t327, .bool t328, .string t329, .string t330] 26 (0, 0)) bk hb); replace HB := AM (below_step bl hb); (try clear hb); refine hK.out _ _ trivial (fun hHeld => ?_); clear hK K; refine norm_ (a' := ?_) ?_ ?_; rotate_left
                   ·show Act.put _ (some 72) _ = _
                    simp only [Act.put, qI, qz, qs, qi, qj]; rfl
                   refine pure_ (i := 10) (N := some 62) (v := ?_) (a' := ?_) #[true, true, true, true, true, true, true, true, true, true, true, false, false, false, false, false] rfl rfl (any_of HT_.out (by kernel_rfl)) (fun _ _ _ h => h) (Or.inl ⟨by rfl, ?_⟩) ?_ ?_; rotate_left
                   ·intro w'
                    go_simp; with_reducible rfl
                   rotate_left
                   ·simp only [Act.put, qI, qz, qs, qi, qj]
                    rfl
                   refine pure_ (i := 11) (N := some 73) (v := ?_) (a' := ?_) #[true, true, true, true, true, true, true, true, true, true, true, true, false, false, false, false] rfl rfl (any_of HT_.out (by kernel_rfl)) (fun _ _ _ h => h) (Or.inl ⟨by rfl, ?_⟩) ?_ ?_; rotate_left
                   ·intro w'
                    go_simp; with_reducible rfl
                   rotate_left
                   ·simp only [Act.put, qI, qz, qs, qi, qj]
                    rfl
                   refine pure_ (i := 12) (N := some 74) (v := ?_) (a' := ?_) #[true, true, true, true, true, true, true, true, true, true, true, true, true, false, false, false] rfl rfl (any_of HT_.out (by kernel_rfl)) (fun _ _ _ h => h) (Or.inl ⟨by rfl, ?_⟩) ?_ ?_; rotate_left
                   ·intro w'
                    go_simp; with_reducible rfl
                   rotate_left
                   ·simp only [Act.put, qI, qz, qs, qi, qj]
                    rfl
                   refine one_ (i := 13) (N := some 15) #[true, true, true, true, true, true, true, true, true, true, true, true, true, true, false, false] rfl rfl (one_of HT_.out (by kernel_rfl)) (by decide) (fun K hK => ?_); refine box_step ?hg (N := 15) ?hd (cs := #[.int .i64 0, .bool false, .string (⟨#[]⟩ : ByteArray), .string (⟨#[]⟩ : ByteArray)]) (t := 26) ?hr ?_; (case hd => rfl); (case hg => rfl); (case hr => first | (go_simp; done) | (go_simp; rfl)); intro gb338 hg w298 hbox hb; have NB332_338 := AM ((by rw [hg]; exact Nat.ne_of_lt (blk_lt (g := gb332) (o := .cells #[.int .i64 t327, .bool t328, .string t329, .string t330] 26 (0, 0)) bk) : gb332 ≠ gb338)); have NB338_332 := AM (Ne.symm NB332_338.out); have GW338 := gq (w := w) hg; have GE338 := GW338; replace BK332 := AM (blk_below (g := gb332) (o := .cells #[.int .i64 t327, .bool t328, .string t329, .string t330] 26 (0, 0)) bk hb); replace HB := AM (below_step bl hb); have BK338 := AM (hbox); clear hb hbox hg; refine hK.out _ _ trivial (fun hHeld => ?_); clear hK K; refine norm_ (a' := ?_) ?_ ?_; rotate_left
                   ·show Act.put _ (some 15) _ = _
                    simp only [Act.put, qI, qz, qs, qi, qj]; rfl
                   exact norm_ (by simp only [putAll, Act.put, qI, qz, qs]) (hCont (gb338) _ ⟨bk, bk, GW338.out, GE338.out, NB332_338.out, NB338_332.out, bl⟩)
                  ·skip
                   refine box_step ?hg (N := 15) ?hd (cs := #[.int .i64 0, .bool false, .string (⟨#[]⟩ : ByteArray), .string (⟨#[]⟩ : ByteArray)]) (t := 26) ?hr ?_; (case hd => rfl); (case hg => rfl); (case hr => first | (go_simp; done) | (go_simp; rfl)); intro gb338 hg w297 hbox hb; have NB332_338 := AM ((by rw [hg]; exact Nat.ne_of_lt (blk_lt (g := gb332) (o := .cells #[.int .i64 t327, .bool t328, .string t329, .string t330] 26 (0, 0)) bk) : gb332 ≠ gb338)); have NB338_332 := AM (Ne.symm NB332_338.out); have GW338 := gq (w := w) hg; have GE338 := GW338; replace BK332 := AM (blk_below (g := gb332) (o := .cells #[.int .i64 t327, .bool t328, .string t329, .string t330] 26 (0, 0)) bk hb); replace HB := AM (below_step bl hb); have BK338 := AM (hbox); clear hb hbox hg; refine hK.out _ _ trivial (fun hHeld => ?_); clear hK K; refine norm_ (a' := ?_) ?_ ?_; rotate_left
                   ·show Act.put _ (some 15) _ = _
                    simp only [Act.put, qI, qz, qs, qi, qj]; rfl
                   refine one_ (i := 9) (N := some 72) #[true, true, true, true, true, true, true, true, true, true, false, false, false, true, false, false] rfl rfl (one_of HT_.out (by kernel_rfl)) (by decide) (fun K hK => ?_); refine goes_ Tryz.func8 (by kernel_rfl) rfl #[.string (((js1.extract 0 ((ji22) : Int).toNat) ++ x11_2) ++ (js1.extract ((ji22) : Int).toNat js1.size))] (by rfl) rfl rfl (by (try simp only [qT, qC, qN]); first | done | (simp only [hji22]; rfl) | rfl | (simp only [qD, qU]; rfl)) ?_; with_reducible refine (float11_Of.calls k2 (((js1.extract 0 ((ji22) : Int).toNat) ++ x11_2) ++ (js1.extract ((ji22) : Int).toNat js1.size)) t333 t334 t335 t336 t337 _ ?side1 A29.out).mono ?_; (case side1 => exact Go.Proofs.YtkijneohhilboaaGreatDoor.PKT.Tabs_below HG.out bl); rintro e w298 ⟨rfl, hb⟩; refine ⟨_, rfl, ?_⟩; replace BK332 := AM (blk_below (g := gb332) (o := .cells #[.int .i64 t327, .bool t328, .string t329, .string t330] 26 (0, 0)) bk hb); replace BK338 := AM (blk_below (g := gb338) (o := .cells #[.int .i64 0, .bool false, .string (⟨#[]⟩ : ByteArray), .string (⟨#[]⟩ : ByteArray)] 26 (0, 0)) bk hb); replace HB := AM (below_step bl hb); (try clear hb); refine hK.out _ _ trivial (fun hHeld => ?_); clear hK K; refine norm_ (a' := ?_) ?_ ?_; rotate_left
                   ·show Act.put _ (some 72) _ = _
                    simp only [Act.put, qI, qz, qs, qi, qj]; rfl
                   refine pure_ (i := 10) (N := some 62) (v := ?_) (a' := ?_) #[true, true, true, true, true, true, true, true, true, true, true, false, false, true, false, false] rfl rfl (any_of HT_.out (by kernel_rfl)) (fun _ _ _ h => h) (Or.inl ⟨by rfl, ?_⟩) ?_ ?_; rotate_left
                   ·intro w'
                    go_simp; with_reducible rfl
                   rotate_left
                   ·simp only [Act.put, qI, qz, qs, qi, qj]
                    rfl
                   refine pure_ (i := 11) (N := some 73) (v := ?_) (a' := ?_) #[true, true, true, true, true, true, true, true, true, true, true, true, false, true, false, false] rfl rfl (any_of HT_.out (by kernel_rfl)) (fun _ _ _ h => h) (Or.inl ⟨by rfl, ?_⟩) ?_ ?_; rotate_left
                   ·intro w'
                    go_simp; with_reducible rfl
                   rotate_left
                   ·simp only [Act.put, qI, qz, qs, qi, qj]
                    rfl
                   refine pure_ (i := 12) (N := some 74) (v := ?_) (a' := ?_) #[true, true, true, true, true, true, true, true, true, true, true, true, true, true, false, false] rfl rfl (any_of HT_.out (by kernel_rfl)) (fun _ _ _ h => h) (Or.inl ⟨by rfl, ?_⟩) ?_ ?_; rotate_left
                   ·intro w'
                    go_simp; with_reducible rfl
                   rotate_left
                   ·simp only [Act.put, qI, qz, qs, qi, qj]
                    rfl
                   exact norm_ (by simp only [putAll, Act.put, qI, qz, qs]) (hCont (gb338) _ ⟨bk, bk, GW338.out, GE338.out, NB332_338.out, NB338_332.out, bl⟩)
                 rintro gb338 w299 ⟨h0_, h1_, h2_, h3_, h4_, h5_, h6_⟩; have n0_ : Aside0 (w299.heap[gb332]? = some (.cells #[.int .i64 t327, .bool t328, .string t329, .string t330] 26 (0, 0))) := ⟨h0_⟩; have n1_ : Aside0 (w299.heap[gb338]? = some (.cells #[.int .i64 0, .bool false, .string (⟨#[]⟩ : ByteArray), .string (⟨#[]⟩ : ByteArray)] 26 (0, 0))) := ⟨h1_⟩; have n2_ : Aside0 (w.heap.size ≤ gb338) := ⟨h2_⟩; have n3_ : Aside0 (w.heap.size ≤ gb338) := ⟨h3_⟩; have n4_ : Aside0 (gb332 ≠ gb338) := ⟨h4_⟩; have n5_ : Aside0 (gb338 ≠ gb332) := ⟨h5_⟩; have n6_ : Aside0 (Below w.heap.size w w299) := ⟨h6_⟩; clear BK332; clear HB; clear h0_ h1_ h2_ h3_ h4_ h5_ h6_; have BK332 := n0_; have BK338 := n1_; have GW338 := n2_; have GE338 := n3_; have NB332_338 := n4_; have NB338_332 := n5_; have HB := n6_; clear n0_ n1_ n2_ n3_ n4_ n5_ n6_; have hHeld := trivial; refine norm_ (a' := ?_) ?_ ?_; rotate_left
                 ·simp only [putAll, Act.put, qI, qz, qs]
                  rfl
                 refine one_ (i := 14) (N := none) #[true, true, true, true, true, true, true, true, true, true, true, true, true, true, true, false] rfl rfl (one_of HT_.out (by kernel_rfl)) (by decide) (fun K hK => ?_); have hs300 : w299.cell? ⟨gb338, 0, none⟩ = some (.int .i64 0) := (blk_cell BK338.out 0).trans rfl; have hfs300 := blk_frozen BK338.out 0; have hns300_0 := NB332_338.out; have hms300_0 := NB338_332.out; have hs301 : w299.cell? ⟨gb338, 1, none⟩ = some (.bool false) := (blk_cell BK338.out 1).trans rfl; have hfs301 := blk_frozen BK338.out 1; have hns301_0 := NB332_338.out; have hms301_0 := NB338_332.out; have hs302 : w299.cell? ⟨gb338, 2, none⟩ = some (.string (⟨#[]⟩ : ByteArray)) := (blk_cell BK338.out 2).trans rfl; have hfs302 := blk_frozen BK338.out 2; have hns302_0 := NB332_338.out; have hms302_0 := NB338_332.out; have hs303 : w299.cell? ⟨gb338, 3, none⟩ = some (.string (⟨#[]⟩ : ByteArray)) := (blk_cell BK338.out 3).trans rfl; have hfs303 := blk_frozen BK338.out 3; have hns303_0 := NB332_338.out; have hms303_0 := NB338_332.out; refine skip_ (w1 := ?_) (by rfl) rfl ?_ ?_; rotate_left
                 ·go_simp
                  rfl
                 refine hK.out _ _ trivial (fun hHeld => ?_); clear hK K; refine pure_ (i := 15) (N := some 16) (v := ?_) (a' := ?_) #[true, true, true, true, true, true, true, true, true, true, true, true, true, true, true, true] rfl rfl (any_of HT_.out (by kernel_rfl)) (fun _ _ _ h => h) (Or.inl ⟨by rfl, ?_⟩) ?_ ?_; rotate_left
                 ·intro w'
                  go_simp; with_reducible rfl
                 rotate_left
                 ·simp only [Act.put, qI, qz, qs, qi, qj]
                  rfl
                 refine done_ (done_of HT_.out (by kernel_rfl)) ?_; try go_wp2
                 have n0_ : Aside0 (((((w299.setCell ⟨gb338, 0, none⟩ (.int .i64 t333)).setCell ⟨gb338, 1, none⟩ (.bool t334)).setCell ⟨gb338, 2, none⟩ (.string t335)).setCell ⟨gb338, 3, none⟩ (.string t336)).heap[gb332]? = some (.cells #[.int .i64 t327, .bool t328, .string t329, .string t330] 26 (0, 0))) := ⟨by (with_reducible repeat (first | refine vN ?_ _ | refine vD ?_ | refine vA ?_ _)); refine blk_far ?_ NB332_338.out _; (with_reducible repeat (first | refine vN ?_ _ | refine vD ?_ | refine vA ?_ _)); refine blk_far ?_ NB332_338.out _; (with_reducible repeat (first | refine vN ?_ _ | refine vD ?_ | refine vA ?_ _)); refine blk_far ?_ NB332_338.out _; (with_reducible repeat (first | refine vN ?_ _ | refine vD ?_ | refine vA ?_ _)); refine blk_far ?_ NB332_338.out _; (with_reducible repeat (first | refine vN ?_ _ | refine vD ?_ | refine vA ?_ _)); exact BK332.out⟩; have n1_ : Aside0 (((((w299.setCell ⟨gb338, 0, none⟩ (.int .i64 t333)).setCell ⟨gb338, 1, none⟩ (.bool t334)).setCell ⟨gb338, 2, none⟩ (.string t335)).setCell ⟨gb338, 3, none⟩ (.string t336)).heap[gb338]? = some (.cells #[.int .i64 t333, .bool t334, .string t335, .string t336] 26 (0, 0))) := ⟨by (with_reducible repeat (first | refine vN ?_ _ | refine vD ?_ | refine vA ?_ _)); refine blk_put (cs := #[.int .i64 t333, .bool t334, .string t335, .string (⟨#[]⟩ : ByteArray)]) ?_ 3 _ rfl; (with_reducible repeat (first | refine vN ?_ _ | refine vD ?_ | refine vA ?_ _)); refine blk_put (cs := #[.int .i64 t333, .bool t334, .string (⟨#[]⟩ : ByteArray), .string (⟨#[]⟩ : ByteArray)]) ?_ 2 _ rfl; (with_reducible repeat (first | refine vN ?_ _ | refine vD ?_ | refine vA ?_ _)); refine blk_put (cs := #[.int .i64 t333, .bool false, .string (⟨#[]⟩ : ByteArray), .string (⟨#[]⟩ : ByteArray)]) ?_ 1 _ rfl; (with_reducible repeat (first | refine vN ?_ _ | refine vD ?_ | refine vA ?_ _)); refine blk_put (cs := #[.int .i64 0, .bool false, .string (⟨#[]⟩ : ByteArray), .string (⟨#[]⟩ : ByteArray)]) ?_ 0 _ rfl; (with_reducible repeat (first | refine vN ?_ _ | refine vD ?_ | refine vA ?_ _)); exact BK338.out⟩; have n2_ : Aside0 (Below w.heap.size w ((((w299.setCell ⟨gb338, 0, none⟩ (.int .i64 t333)).setCell ⟨gb338, 1, none⟩ (.bool t334)).setCell ⟨gb338, 2, none⟩ (.string t335)).setCell ⟨gb338, 3, none⟩ (.string t336))) := ⟨bl⟩; (try clear BK332); (try clear BK338); (try clear HB); generalize ((((w299.setCell ⟨gb338, 0, none⟩ (.int .i64 t333)).setCell ⟨gb338, 1, none⟩ (.bool t334)).setCell ⟨gb338, 2, none⟩ (.string t335)).setCell ⟨gb338, 3, none⟩ (.string t336)) = w304 at n0_ n1_ n2_ ⊢; have BK332 := n0_; have BK338 := n1_; have HB := n2_; clear n0_ n1_ n2_; have n0_ := AM (vD BK332.out); have n1_ := AM (vD BK338.out); have n2_ := AM (wD HB.out); clear BK332
                 clear BK338; clear HB; have BK332 := n0_; have BK338 := n1_; have HB := n2_; clear n0_ n1_ n2_; refine start_ (n := 17) (S := fun w' => True) (ds := []) #[false, false, false, false, false, false, false, false, false, false, false, false, false, false, false, false, false] (by kernel_rfl) rfl rfl trivial (fun hHeld => ?_); refine with_tabW targumlaw7_Float11Gaps.tab14 targumlaw7_Float11Gaps.bits14 (fun HT_ HW_ => ?_); generalize w304.drew = w305 at BK332 BK338 HB hHeld ⊢; refine pure_ (i := 0) (N := some 76) (v := ?_) (a' := ?_) #[true, false, false, false, false, false, false, false, false, false, false, false, false, false, false, false, false] rfl rfl (any_of HT_.out (by kernel_rfl)) (fun _ _ _ h => h) (Or.inl ⟨by rfl, ?_⟩) ?_ ?_; rotate_left
                 ·intro w'
                  go_simp; with_reducible rfl
                 rotate_left
                 ·simp only [Act.put, qI, qz, qs, qi, qj]
                  rfl
                 refine pure_ (i := 1) (N := some 77) (v := ?_) (a' := ?_) #[true, true, false, false, false, false, false, false, false, false, false, false, false, false, false, false, false] rfl rfl (any_of HT_.out (by kernel_rfl)) (fun _ _ _ h => h) (Or.inl ⟨by rfl, ?_⟩) ?_ ?_; rotate_left
                 ·intro w'
                  go_simp; with_reducible rfl
                 rotate_left
                 ·simp only [Act.put, qI, qz, qs, qi, qj]
                  rfl
                 refine pure_ (i := 2) (N := some 78) (v := ?_) (a' := ?_) #[true, true, true, false, false, false, false, false, false, false, false, false, false, false, false, false, false] rfl rfl (any_of HT_.out (by kernel_rfl)) (fun _ _ _ h => h) (Or.inl ⟨by rfl, ?_⟩) ?_ ?_; rotate_left
                 ·intro w'
                  go_simp; with_reducible rfl
                 rotate_left
                 ·simp only [Act.put, qI, qz, qs, qi, qj]
                  rfl
                 refine pure_ (i := 3) (N := some 79) (v := ?_) (a' := ?_) #[true, true, true, true, false, false, false, false, false, false, false, false, false, false, false, false, false] rfl rfl (any_of HT_.out (by kernel_rfl)) (fun _ _ _ h => h) (Or.inl ⟨by rfl, ?_⟩) ?_ ?_; rotate_left
                 ·intro w'
                  go_simp; with_reducible rfl
                 rotate_left
                 ·simp only [Act.put, qI, qz, qs, qi, qj]
                  rfl
                 refine pure_ (i := 4) (N := some 80) (v := ?_) (a' := ?_) #[true, true, true, true, true, false, false, false, false, false, false, false, false, false, false, false, false] rfl rfl (any_of HT_.out (by kernel_rfl)) (fun _ _ _ h => h) (Or.inl ⟨by rfl, ?_⟩) ?_ ?_; rotate_left
                 ·intro w'
                  go_simp; with_reducible rfl
                 rotate_left
                 ·simp only [Act.put, qI, qz, qs, qi, qj]
                  rfl
                 refine pure_ (i := 5) (N := some 81) (v := ?_) (a' := ?_) #[true, true, true, true, true, true, false, false, false, false, false, false, false, false, false, false, false] rfl rfl (any_of HT_.out (by kernel_rfl)) (fun _ _ _ h => h) (Or.inl ⟨by rfl, ?_⟩) ?_ ?_; rotate_left
                 ·intro w'
                  go_simp; with_reducible rfl
                 rotate_left
                 ·simp only [Act.put, qI, qz, qs, qi, qj]
                  rfl
                 refine pure_ (i := 6) (N := some 82) (v := ?_) (a' := ?_) #[true, true, true, true, true, true, true, false, false, false, false, false, false, false, false, false, false] rfl rfl (any_of HT_.out (by kernel_rfl)) (fun _ _ _ h => h) (Or.inl ⟨by rfl, ?_⟩) ?_ ?_; rotate_left
                 ·intro w'
                  go_simp; with_reducible rfl
                 rotate_left
                 ·simp only [Act.put, qI, qz, qs, qi, qj]
                  rfl
                 refine pure_ (i := 7) (N := some 83) (v := ?_) (a' := ?_) #[true, true, true, true, true, true, true, true, false, false, false, false, false, false, false, false, false] rfl rfl (any_of HT_.out (by kernel_rfl)) (fun _ _ _ h => h) (Or.inl ⟨by rfl, ?_⟩) ?_ ?_; rotate_left
                 ·intro w'
                  go_simp; with_reducible rfl
                 rotate_left
                 ·simp only [Act.put, qI, qz, qs, qi, qj]
                  rfl
                 refine pure_ (i := 8) (N := some 84) (v := ?_) (a' := ?_) #[true, true, true, true, true, true, true, true, true, false, false, false, false, false, false, false, false] rfl rfl (any_of HT_.out (by kernel_rfl)) (fun _ _ _ h => h) (Or.inl ⟨by rfl, ?_⟩) ?_ ?_; rotate_left
                 ·intro w'
                  go_simp; with_reducible rfl
                 rotate_left
                 ·simp only [Act.put, qI, qz, qs, qi, qj]
                  rfl
                 refine pure_ (i := 9) (N := some 85) (v := ?_) (a' := ?_) #[true, true, true, true, true, true, true, true, true, true, false, false, false, false, false, false, false] rfl rfl (any_of HT_.out (by kernel_rfl)) (fun _ _ _ h => h) (Or.inl ⟨by rfl, ?_⟩) ?_ ?_; rotate_left
                 ·intro w'
                  go_simp; with_reducible rfl
                 rotate_left
                 ·simp only [Act.put, qI, qz, qs, qi, qj]
                  rfl
                 refine join_ (σ := Nat) 2 #[true, true, true, true, true, true, true, true, true, true, true, true, true, true, true, false, false] (fun s_ => [(86, .tuple #[.agg #[.int .i64 t339, .bool t340, .string t341, .string t342], .bool t343]), (17, .pointer (some ⟨s_, 0, none⟩)), (75, .tuple #[.agg #[.int .i64 t339, .bool t340, .string t341, .string t342], .bool t343]), (87, .agg #[.int .i64 t339, .bool t340, .string t341, .string t342]), (88, .bool t343)]) (fun s_ w' => (w'.heap[gb332]? = some (.cells #[.int .i64 t327, .bool t328, .string t329, .string t330] 26 (0, 0))) ∧ (w'.heap[gb338]? = some (.cells #[.int .i64 t333, .bool t334, .string t335, .string t336] 26 (0, 0))) ∧ (w'.heap[s_]? = some (.cells #[.int .i64 0, .bool false, .string (⟨#[]⟩ : ByteArray), .string (⟨#[]⟩ : ByteArray)] 26 (0, 0))) ∧ (w.heap.size ≤ s_) ∧ (w.heap.size ≤ s_) ∧ (gb332 ≠ s_) ∧ (s_ ≠ gb332) ∧ (gb338 ≠ s_) ∧ (s_ ≠ gb338) ∧ (Below w.heap.size w w')) ?_ ?_; rotate_left
                 ·as_aux_lemma =>
                  intro hCont; refine two_ (i := 10) (j := 14) (Ni := some 86) (Nj := some 17) #[true, true, true, true, true, true, true, true, true, true, true, false, false, false, false, false, false] #[true, true, true, true, true, true, true, true, true, true, false, false, false, false, true, false, false] rfl rfl rfl rfl (two_of HT_.out (by kernel_rfl)) (by decide) (by decide) (fun K hK => ?_) (fun K hK => ?_)
                  ·skip
                   refine goes_ Tryz.func8 (by kernel_rfl) rfl #[.string ((((js1.extract 0 ((ji22) : Int).toNat) ++ x11_2) ++ (js1.extract ((ji22) : Int).toNat js1.size)) ++ (⟨#[101, 45, 55]⟩ : ByteArray))] (by rfl) rfl rfl (by (try simp only [qT, qC, qN]); first | done | (simp only [hji22]; rfl) | rfl | (simp only [qD, qU]; rfl)) ?_; with_reducible refine (float11_Of.calls k2 ((((js1.extract 0 ((ji22) : Int).toNat) ++ x11_2) ++ (js1.extract ((ji22) : Int).toNat js1.size)) ++ (⟨#[101, 45, 55]⟩ : ByteArray)) t339 t340 t341 t342 t343 _ ?side1 A35.out).mono ?_; (case side1 => exact Go.Proofs.YtkijneohhilboaaGreatDoor.PKT.Tabs_below HG.out bl); rintro e w306 ⟨rfl, hb⟩; refine ⟨_, rfl, ?_⟩; replace BK332 := AM (blk_below (g := gb332) (o := .cells #[.int .i64 t327, .bool t328, .string t329, .string t330] 26 (0, 0)) bk hb); replace BK338 := AM (blk_below (g := gb338) (o := .cells #[.int .i64 t333, .bool t334, .string t335, .string t336] 26 (0, 0)) bk hb); replace HB := AM (below_step bl hb); (try clear hb); refine hK.out _ _ trivial (fun hHeld => ?_); clear hK K; refine norm_ (a' := ?_) ?_ ?_; rotate_left
                   ·show Act.put _ (some 86) _ = _
                    simp only [Act.put, qI, qz, qs, qi, qj]; rfl
                   refine pure_ (i := 11) (N := some 75) (v := ?_) (a' := ?_) #[true, true, true, true, true, true, true, true, true, true, true, true, false, false, false, false, false] rfl rfl (any_of HT_.out (by kernel_rfl)) (fun _ _ _ h => h) (Or.inl ⟨by rfl, ?_⟩) ?_ ?_; rotate_left
                   ·intro w'
                    go_simp; with_reducible rfl
                   rotate_left
                   ·simp only [Act.put, qI, qz, qs, qi, qj]
                    rfl
                   refine pure_ (i := 12) (N := some 87) (v := ?_) (a' := ?_) #[true, true, true, true, true, true, true, true, true, true, true, true, true, false, false, false, false] rfl rfl (any_of HT_.out (by kernel_rfl)) (fun _ _ _ h => h) (Or.inl ⟨by rfl, ?_⟩) ?_ ?_; rotate_left
                   ·intro w'
                    go_simp; with_reducible rfl
                   rotate_left
                   ·simp only [Act.put, qI, qz, qs, qi, qj]
                    rfl
                   refine pure_ (i := 13) (N := some 88) (v := ?_) (a' := ?_) #[true, true, true, true, true, true, true, true, true, true, true, true, true, true, false, false, false] rfl rfl (any_of HT_.out (by kernel_rfl)) (fun _ _ _ h => h) (Or.inl ⟨by rfl, ?_⟩) ?_ ?_; rotate_left
                   ·intro w'
                    go_simp; with_reducible rfl
                   rotate_left
                   ·simp only [Act.put, qI, qz, qs, qi, qj]
                    rfl
                   refine one_ (i := 14) (N := some 17) #[true, true, true, true, true, true, true, true, true, true, true, true, true, true, true, false, false] rfl rfl (one_of HT_.out (by kernel_rfl)) (by decide) (fun K hK => ?_); refine box_step ?hg (N := 17) ?hd (cs := #[.int .i64 0, .bool false, .string (⟨#[]⟩ : ByteArray), .string (⟨#[]⟩ : ByteArray)]) (t := 26) ?hr ?_; (case hd => rfl); (case hg => rfl); (case hr => first | (go_simp; done) | (go_simp; rfl)); intro gb344 hg w307 hbox hb; have NB332_344 := AM ((by rw [hg]; exact Nat.ne_of_lt (blk_lt (g := gb332) (o := .cells #[.int .i64 t327, .bool t328, .string t329, .string t330] 26 (0, 0)) bk) : gb332 ≠ gb344)); have NB344_332 := AM (Ne.symm NB332_344.out); have NB338_344 := AM ((by rw [hg]; exact Nat.ne_of_lt (blk_lt (g := gb338) (o := .cells #[.int .i64 t333, .bool t334, .string t335, .string t336] 26 (0, 0)) bk) : gb338 ≠ gb344)); have NB344_338 := AM (Ne.symm NB338_344.out); have GW344 := gq (w := w) hg; have GE344 := GW344; replace BK332 := AM (blk_below (g := gb332) (o := .cells #[.int .i64 t327, .bool t328, .string t329, .string t330] 26 (0, 0)) bk hb); replace BK338 := AM (blk_below (g := gb338) (o := .cells #[.int .i64 t333, .bool t334, .string t335, .string t336] 26 (0, 0)) bk hb); replace HB := AM (below_step bl hb); have BK344 := AM (hbox); clear hb hbox hg; refine hK.out _ _ trivial (fun hHeld => ?_); clear hK K; refine norm_ (a' := ?_) ?_ ?_; rotate_left
                   ·show Act.put _ (some 17) _ = _
                    simp only [Act.put, qI, qz, qs, qi, qj]; rfl
                   exact norm_ (by simp only [putAll, Act.put, qI, qz, qs]) (hCont (gb344) _ ⟨bk, bk, bk, GW344.out, GE344.out, NB332_344.out, NB344_332.out, NB338_344.out, NB344_338.out, bl⟩)
                  ·skip
                   refine box_step ?hg (N := 17) ?hd (cs := #[.int .i64 0, .bool false, .string (⟨#[]⟩ : ByteArray), .string (⟨#[]⟩ : ByteArray)]) (t := 26) ?hr ?_; (case hd => rfl); (case hg => rfl); (case hr => first | (go_simp; done) | (go_simp; rfl)); intro gb344 hg w306 hbox hb; have NB332_344 := AM ((by rw [hg]; exact Nat.ne_of_lt (blk_lt (g := gb332) (o := .cells #[.int .i64 t327, .bool t328, .string t329, .string t330] 26 (0, 0)) bk) : gb332 ≠ gb344)); have NB344_332 := AM (Ne.symm NB332_344.out); have NB338_344 := AM ((by rw [hg]; exact Nat.ne_of_lt (blk_lt (g := gb338) (o := .cells #[.int .i64 t333, .bool t334, .string t335, .string t336] 26 (0, 0)) bk) : gb338 ≠ gb344)); have NB344_338 := AM (Ne.symm NB338_344.out); have GW344 := gq (w := w) hg; have GE344 := GW344; replace BK332 := AM (blk_below (g := gb332) (o := .cells #[.int .i64 t327, .bool t328, .string t329, .string t330] 26 (0, 0)) bk hb); replace BK338 := AM (blk_below (g := gb338) (o := .cells #[.int .i64 t333, .bool t334, .string t335, .string t336] 26 (0, 0)) bk hb); replace HB := AM (below_step bl hb); have BK344 := AM (hbox); clear hb hbox hg; refine hK.out _ _ trivial (fun hHeld => ?_); clear hK K; refine norm_ (a' := ?_) ?_ ?_; rotate_left
                   ·show Act.put _ (some 17) _ = _
                    simp only [Act.put, qI, qz, qs, qi, qj]; rfl
                   refine one_ (i := 10) (N := some 86) #[true, true, true, true, true, true, true, true, true, true, true, false, false, false, true, false, false] rfl rfl (one_of HT_.out (by kernel_rfl)) (by decide) (fun K hK => ?_); refine goes_ Tryz.func8 (by kernel_rfl) rfl #[.string ((((js1.extract 0 ((ji22) : Int).toNat) ++ x11_2) ++ (js1.extract ((ji22) : Int).toNat js1.size)) ++ (⟨#[101, 45, 55]⟩ : ByteArray))] (by rfl) rfl rfl (by (try simp only [qT, qC, qN]); first | done | (simp only [hji22]; rfl) | rfl | (simp only [qD, qU]; rfl)) ?_; with_reducible refine (float11_Of.calls k2 ((((js1.extract 0 ((ji22) : Int).toNat) ++ x11_2) ++ (js1.extract ((ji22) : Int).toNat js1.size)) ++ (⟨#[101, 45, 55]⟩ : ByteArray)) t339 t340 t341 t342 t343 _ ?side1 A35.out).mono ?_; (case side1 => exact Go.Proofs.YtkijneohhilboaaGreatDoor.PKT.Tabs_below HG.out bl); rintro e w307 ⟨rfl, hb⟩; refine ⟨_, rfl, ?_⟩; replace BK332 := AM (blk_below (g := gb332) (o := .cells #[.int .i64 t327, .bool t328, .string t329, .string t330] 26 (0, 0)) bk hb); replace BK338 := AM (blk_below (g := gb338) (o := .cells #[.int .i64 t333, .bool t334, .string t335, .string t336] 26 (0, 0)) bk hb); replace BK344 := AM (blk_below (g := gb344) (o := .cells #[.int .i64 0, .bool false, .string (⟨#[]⟩ : ByteArray), .string (⟨#[]⟩ : ByteArray)] 26 (0, 0)) bk hb); replace HB := AM (below_step bl hb); (try clear hb); refine hK.out _ _ trivial (fun hHeld => ?_); clear hK K; refine norm_ (a' := ?_) ?_ ?_; rotate_left
                   ·show Act.put _ (some 86) _ = _
                    simp only [Act.put, qI, qz, qs, qi, qj]; rfl
                   refine pure_ (i := 11) (N := some 75) (v := ?_) (a' := ?_) #[true, true, true, true, true, true, true, true, true, true, true, true, false, false, true, false, false] rfl rfl (any_of HT_.out (by kernel_rfl)) (fun _ _ _ h => h) (Or.inl ⟨by rfl, ?_⟩) ?_ ?_; rotate_left
                   ·intro w'
                    go_simp; with_reducible rfl
                   rotate_left
                   ·simp only [Act.put, qI, qz, qs, qi, qj]
                    rfl
                   refine pure_ (i := 12) (N := some 87) (v := ?_) (a' := ?_) #[true, true, true, true, true, true, true, true, true, true, true, true, true, false, true, false, false] rfl rfl (any_of HT_.out (by kernel_rfl)) (fun _ _ _ h => h) (Or.inl ⟨by rfl, ?_⟩) ?_ ?_; rotate_left
                   ·intro w'
                    go_simp; with_reducible rfl
                   rotate_left
                   ·simp only [Act.put, qI, qz, qs, qi, qj]
                    rfl
                   refine pure_ (i := 13) (N := some 88) (v := ?_) (a' := ?_) #[true, true, true, true, true, true, true, true, true, true, true, true, true, true, true, false, false] rfl rfl (any_of HT_.out (by kernel_rfl)) (fun _ _ _ h => h) (Or.inl ⟨by rfl, ?_⟩) ?_ ?_; rotate_left
                   ·intro w'
                    go_simp; with_reducible rfl
                   rotate_left
                   ·simp only [Act.put, qI, qz, qs, qi, qj]
                    rfl
                   exact norm_ (by simp only [putAll, Act.put, qI, qz, qs]) (hCont (gb344) _ ⟨bk, bk, bk, GW344.out, GE344.out, NB332_344.out, NB344_332.out, NB338_344.out, NB344_338.out, bl⟩)
                 rintro gb344 w308 ⟨h0_, h1_, h2_, h3_, h4_, h5_, h6_, h7_, h8_, h9_⟩; have n0_ : Aside0 (w308.heap[gb332]? = some (.cells #[.int .i64 t327, .bool t328, .string t329, .string t330] 26 (0, 0))) := ⟨h0_⟩; have n1_ : Aside0 (w308.heap[gb338]? = some (.cells #[.int .i64 t333, .bool t334, .string t335, .string t336] 26 (0, 0))) := ⟨h1_⟩; have n2_ : Aside0 (w308.heap[gb344]? = some (.cells #[.int .i64 0, .bool false, .string (⟨#[]⟩ : ByteArray), .string (⟨#[]⟩ : ByteArray)] 26 (0, 0))) := ⟨h2_⟩; have n3_ : Aside0 (w.heap.size ≤ gb344) := ⟨h3_⟩; have n4_ : Aside0 (w.heap.size ≤ gb344) := ⟨h4_⟩; have n5_ : Aside0 (gb332 ≠ gb344) := ⟨h5_⟩; have n6_ : Aside0 (gb344 ≠ gb332) := ⟨h6_⟩; have n7_ : Aside0 (gb338 ≠ gb344) := ⟨h7_⟩; have n8_ : Aside0 (gb344 ≠ gb338) := ⟨h8_⟩; have n9_ : Aside0 (Below w.heap.size w w308) := ⟨h9_⟩; clear BK332; clear BK338; clear HB; clear h0_ h1_ h2_ h3_ h4_ h5_ h6_ h7_ h8_ h9_; have BK332 := n0_; have BK338 := n1_; have BK344 := n2_; have GW344 := n3_; have GE344 := n4_; have NB332_344 := n5_; have NB344_332 := n6_; have NB338_344 := n7_; have NB344_338 := n8_; have HB := n9_; clear n0_ n1_ n2_ n3_ n4_ n5_ n6_ n7_ n8_ n9_; have hHeld := trivial; refine norm_ (a' := ?_) ?_ ?_; rotate_left
                 ·simp only [putAll, Act.put, qI, qz, qs]
                  rfl
                 refine one_ (i := 15) (N := none) #[true, true, true, true, true, true, true, true, true, true, true, true, true, true, true, true, false] rfl rfl (one_of HT_.out (by kernel_rfl)) (by decide) (fun K hK => ?_); have hs309 : w308.cell? ⟨gb344, 0, none⟩ = some (.int .i64 0) := (blk_cell BK344.out 0).trans rfl; have hfs309 := blk_frozen BK344.out 0; have hns309_0 := NB332_344.out; have hns309_1 := NB338_344.out; have hms309_0 := NB344_332.out; have hms309_1 := NB344_338.out; have hs310 : w308.cell? ⟨gb344, 1, none⟩ = some (.bool false) := (blk_cell BK344.out 1).trans rfl; have hfs310 := blk_frozen BK344.out 1; have hns310_0 := NB332_344.out; have hns310_1 := NB338_344.out; have hms310_0 := NB344_332.out; have hms310_1 := NB344_338.out; have hs311 : w308.cell? ⟨gb344, 2, none⟩ = some (.string (⟨#[]⟩ : ByteArray)) := (blk_cell BK344.out 2).trans rfl; have hfs311 := blk_frozen BK344.out 2; have hns311_0 := NB332_344.out; have hns311_1 := NB338_344.out; have hms311_0 := NB344_332.out; have hms311_1 := NB344_338.out; have hs312 : w308.cell? ⟨gb344, 3, none⟩ = some (.string (⟨#[]⟩ : ByteArray)) := (blk_cell BK344.out 3).trans rfl; have hfs312 := blk_frozen BK344.out 3; have hns312_0 := NB332_344.out; have hns312_1 := NB338_344.out; have hms312_0 := NB344_332.out; have hms312_1 := NB344_338.out; refine skip_ (w1 := ?_) (by rfl) rfl ?_ ?_; rotate_left
                 ·go_simp
                  rfl
                 refine hK.out _ _ trivial (fun hHeld => ?_); clear hK K; refine pure_ (i := 16) (N := some 18) (v := ?_) (a' := ?_) #[true, true, true, true, true, true, true, true, true, true, true, true, true, true, true, true, true] rfl rfl (any_of HT_.out (by kernel_rfl)) (fun _ _ _ h => h) (Or.inl ⟨by rfl, ?_⟩) ?_ ?_; rotate_left
                 ·intro w'
                  go_simp; with_reducible rfl
                 rotate_left
                 ·simp only [Act.put, qI, qz, qs, qi, qj]
                  rfl
                 refine done_ (done_of HT_.out (by kernel_rfl)) ?_; skip
                case x23 | y23 | y20 | y19 | y18 | y17 | y16 =>
                 as_aux_lemma =>
                  try go_wp2_with (first | ((with_reducible refine gate_callee (f := 12) rfl ?_); refine goesL_ (some 91) rfl rfl Tryz.func12 (by kernel_rfl) rfl #[.string a0] rfl am ?_; (with_reducible refine (targumlaw7_digits.calls _ _ _ _ A36.out).mono ?_); rintro e w149 ⟨rfl, hb⟩; refine ⟨_, rfl, ?_⟩; replace BK332 := AM (blk_below (g := gb332) (o := .cells #[.int .i64 t327, .bool t328, .string t329, .string t330] 26 (0, 0)) bk hb); replace BK338 := AM (blk_below (g := gb338) (o := .cells #[.int .i64 t333, .bool t334, .string t335, .string t336] 26 (0, 0)) bk hb); replace BK344 := AM (blk_below (g := gb344) (o := .cells #[.int .i64 t339, .bool t340, .string t341, .string t342] 26 (0, 0)) bk hb); replace HB := AM (below_step bl hb); (try clear hb)) | ((with_reducible refine gate_callee (f := 12) rfl ?_); refine goesL_ (some 93) rfl rfl Tryz.func12 (by kernel_rfl) rfl #[.string a1] rfl am ?_; (with_reducible refine (targumlaw7_digits.calls _ _ _ _ A37.out).mono ?_); rintro e w150 ⟨rfl, hb⟩; refine ⟨_, rfl, ?_⟩; replace BK332 := AM (blk_below (g := gb332) (o := .cells #[.int .i64 t327, .bool t328, .string t329, .string t330] 26 (0, 0)) bk hb); replace BK338 := AM (blk_below (g := gb338) (o := .cells #[.int .i64 t333, .bool t334, .string t335, .string t336] 26 (0, 0)) bk hb); replace BK344 := AM (blk_below (g := gb344) (o := .cells #[.int .i64 t339, .bool t340, .string t341, .string t342] 26 (0, 0)) bk hb); replace HB := AM (below_step bl hb); (try clear hb)) | ((with_reducible refine gate_callee (f := 14) rfl ?_); refine goesL_ (some 94) rfl rfl Tryz.func14 (by kernel_rfl) rfl #[.bool false, .string t345, .string t346, .string (⟨#[45, 55]⟩ : ByteArray)] rfl am ?_; (with_reducible refine (targumref4_Make.calls _ _ _ _ _ _ _ _ _ _ _ A38.out).mono ?_); rintro e w151 ⟨rfl, hb⟩; refine ⟨_, rfl, ?_⟩; replace BK332 := AM (blk_below (g := gb332) (o := .cells #[.int .i64 t327, .bool t328, .string t329, .string t330] 26 (0, 0)) bk hb); replace BK338 := AM (blk_below (g := gb338) (o := .cells #[.int .i64 t333, .bool t334, .string t335, .string t336] 26 (0, 0)) bk hb); replace BK344 := AM (blk_below (g := gb344) (o := .cells #[.int .i64 t339, .bool t340, .string t341, .string t342] 26 (0, 0)) bk hb); replace HB := AM (below_step bl hb); (try clear hb)) | ((with_reducible refine gate_dst (N := 19) rfl ?_); (try (refine gate_guard (by rfl) ?_; dsimp only)); refine box_event ?hg (N := 19) ?hd (cs := #[.int .i64 0, .bool false, .string (⟨#[]⟩ : ByteArray), .string (⟨#[]⟩ : ByteArray)]) (t := 26) ?hr ?_; (case hd => rfl); (case hg => rfl); (case hr => first | (go_simp; done) | (go_simp; rfl)); intro gb352 hg w152 hbox hb; have NB332_352 := AM ((by rw [hg]; exact Nat.ne_of_lt (blk_lt (g := gb332) (o := .cells #[.int .i64 t327, .bool t328, .string t329, .string t330] 26 (0, 0)) bk) : gb332 ≠ gb352)); have NB352_332 := AM (Ne.symm NB332_352.out); have NB338_352 := AM ((by rw [hg]; exact Nat.ne_of_lt (blk_lt (g := gb338) (o := .cells #[.int .i64 t333, .bool t334, .string t335, .string t336] 26 (0, 0)) bk) : gb338 ≠ gb352)); have NB352_338 := AM (Ne.symm NB338_352.out); have NB344_352 := AM ((by rw [hg]; exact Nat.ne_of_lt (blk_lt (g := gb344) (o := .cells #[.int .i64 t339, .bool t340, .string t341, .string t342] 26 (0, 0)) bk) : gb344 ≠ gb352)); have NB352_344 := AM (Ne.symm NB344_352.out); have GW352 := gq (w := w) hg; have GE352 := GW352; replace BK332 := AM (blk_below (g := gb332) (o := .cells #[.int .i64 t327, .bool t328, .string t329, .string t330] 26 (0, 0)) bk hb); replace BK338 := AM (blk_below (g := gb338) (o := .cells #[.int .i64 t333, .bool t334, .string t335, .string t336] 26 (0, 0)) bk hb); replace BK344 := AM (blk_below (g := gb344) (o := .cells #[.int .i64 t339, .bool t340, .string t341, .string t342] 26 (0, 0)) bk hb); replace HB := AM (below_step bl hb); have BK352 := AM (hbox); clear hb hbox hg; have hnb153 := NB352_332.out; have hnc153 := NB332_352.out; have hnb154 := NB352_338.out; have hnc154 := NB338_352.out; have hnb155 := NB352_344.out; have hnc155 := NB344_352.out; obtain ⟨hcz156_0, hcz156_1, hcz156_2, hcz156_3, hfz156_0, hfz156_1, hfz156_2, hfz156_3⟩ := cz4 BK352.out; have hnb157 := NB332_338.out; have hnc157 := NB338_332.out; have hnb158 := NB332_344.out; have hnc158 := NB344_332.out; obtain ⟨hcz159_0, hcz159_1, hcz159_2, hcz159_3, hfz159_0, hfz159_1, hfz159_2, hfz159_3⟩ := cz4 BK332.out; have hnb160 := NB338_344.out; have hnc160 := NB344_338.out; obtain ⟨hcz161_0, hcz161_1, hcz161_2, hcz161_3, hfz161_0, hfz161_1, hfz161_2, hfz161_3⟩ := cz4 BK338.out; obtain ⟨hcz162_0, hcz162_1, hcz162_2, hcz162_3, hfz162_0, hfz162_1, hfz162_2, hfz162_3⟩ := cz4 BK344.out) | (go_at_call 10; (with_reducible refine (float11_Is.calls _ _ _ _ A86.out).mono ?_); rintro e w163 ⟨rfl, hb⟩; replace BK332 := AM (blk_below (g := gb332) (o := .cells #[.int .i64 t327, .bool t328, .string t329, .string t330] 26 (0, 0)) bk hb); replace BK338 := AM (blk_below (g := gb338) (o := .cells #[.int .i64 t333, .bool t334, .string t335, .string t336] 26 (0, 0)) bk hb); replace BK344 := AM (blk_below (g := gb344) (o := .cells #[.int .i64 t339, .bool t340, .string t341, .string t342] 26 (0, 0)) bk hb); replace BK352 := AM (blk_below (g := gb352) (o := .cells #[.int .i64 t347, .bool t348, .string t349, .string t350] 26 (0, 0)) bk hb); replace HB := AM (below_step bl hb); (try clear hb)) | (go_at_call 10; (with_reducible refine (float11_Is.calls _ _ _ _ A127.out).mono ?_); rintro e w164 ⟨rfl, hb⟩; replace BK332 := AM (blk_below (g := gb332) (o := .cells #[.int .i64 t327, .bool t328, .string t329, .string t330] 26 (0, 0)) bk hb); replace BK338 := AM (blk_below (g := gb338) (o := .cells #[.int .i64 t333, .bool t334, .string t335, .string t336] 26 (0, 0)) bk hb); replace BK344 := AM (blk_below (g := gb344) (o := .cells #[.int .i64 t339, .bool t340, .string t341, .string t342] 26 (0, 0)) bk hb); replace BK352 := AM (blk_below (g := gb352) (o := .cells #[.int .i64 t347, .bool t348, .string t349, .string t350] 26 (0, 0)) bk hb); replace HB := AM (below_step bl hb); (try clear hb)))
                  go_ret
                  exact ⟨by first | rfl | (simp [errW_none, errW_some] <;> rfl) | (simp only [← hji22]; first | rfl | (simp [errW_none, errW_some] <;> rfl)) | (simp [*, errW_none, errW_some] <;> rfl), bl⟩
               ·rw [if_neg c34] at H
                exact absurd H (by simp)
              ·rw [if_neg c28] at H
               exact absurd H (by simp)
             ·rw [if_neg c25] at H
              exact absurd H (by simp)
            ·rw [if_neg c24] at H
             exact absurd H (by simp)
           ·rw [if_neg c23] at H
            exact absurd H (by simp)
      ·rw [if_neg c15] at H
       exact absurd H (by simp)
     ·rw [if_neg c13] at H
      exact absurd H (by simp)
 ·replace c6 := Bool.eq_false_iff.mpr c6
  subst c6
  have H1 : (some false) = some r := by rw [if_neg (show ¬ (false = true) by decide)] at H; exact H
  clear H
  have H := H1
  clear H1
  obtain rfl := Option.some.inj H
  go_enter Tryz.func6, Tryz.ntmps6
  go_wp2_with (first | ((with_reducible refine gate_callee (f := 7) rfl ?_); refine goesL_ (some 21) rfl rfl Tryz.func7 (by kernel_rfl) rfl #[] rfl am ?_; (with_reducible refine (targumlaw7_known.calls k  false _ ?side1 A5.out).mono ?_); (case side1 => exact Go.Proofs.YtkijneohhilboaaGreatDoor.PKT.Tabs_below HG.out bl); rintro e w321 ⟨rfl, hb⟩; refine ⟨_, rfl, ?_⟩; replace HB := AM (below_step bl hb); (try clear hb)))
  go_ret
  exact ⟨by first | rfl | (simp [errW_none, errW_some] <;> rfl) | (simp [*, errW_none, errW_some] <;> rfl) | ((generalize ByteArray.toList _ = z_); cases z_ <;> first | rfl | (simp; done)), bl⟩

/-- THE ONE PURE STATEMENT of targumlaw7_Float11Gaps: yours. -/
def targumlaw7_Float11Gaps.Pure : Prop := ∀ (a0 : ByteArray) (a1 : ByteArray) (a2 : Int) (a3 : Int), a0.size ≤ 140737488351232 → a1.size ≤ 140737488351232 → (Lit.int .u8 a2).wf = true → (Lit.int .u8 a3).wf = true → ∃ k, targumlaw7_Float11Gaps.f k a0 a1 a2 a3 = some true
theorem targumlaw7_Float11Gaps.walk (P : targumlaw7_Float11Gaps.Pure) (a0 : ByteArray) (a1 : ByteArray) (a2 : Int) (a3 : Int) (w : World) (w0 : a0.size ≤ 140737488351232) (w1 : a1.size ≤ 140737488351232) (w2 : (Lit.int .u8 a2).wf = true) (w3 : (Lit.int .u8 a3).wf = true) (hG : Go.Proofs.YtkijneohhilboaaGreatDoor.PKT.Tabs w) :
  Calls Tryz.prog 6 #[.string a0, .string a1, .int .u8 a2, .int .u8 a3] w fun e w' => e = .returned (.bool true) ∧ Below w.heap.size w w' := by
 obtain ⟨k, h⟩ := P a0 a1 a2 a3 w0 w1 w2 w3
 refine (targumlaw7_Float11Gaps.calls k a0 a1 a2 a3 true w hG h).mono ?_
 rintro e w' ⟨rfl, hd⟩
 exact ⟨rfl, hd⟩

end Go.Proofs.YtkijneohhilboaaGreatDoor.PK
