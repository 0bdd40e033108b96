/- Written by this session's own program (xprint, made over the kit's print): Lean functions with the same answers as the Go functions, and the proofs of that. Not trusted: Lean checks it. -/
import Derived.Test.YtkijneohhilboaaGreatDoorPTx0
import Derived.Test.YtkijneohhilboaaGreatDoorXW
import Derived.Test.YtkijneohhilboaaGreatDoorXZ
namespace Go.Proofs.YtkijneohhilboaaGreatDoor.PT
open Go.Proofs.YtkijneohhilboaaGreatDoor.XZ
open Go.Proofs.YtkijneohhilboaaGreatDoor.XW
open Go.RowKit Go.Proofs.YtkijneohhilboaaGreatDoorW.PrintWords Go.Proofs.YtkijneohhilboaaGreatDoorW.PrintLast Go.Proofs.YtkijneohhilboaaGreatDoorW.PrintMore
attribute [local go_sem] max2_int min2_int max_two min_two max_three min_three max_four min_four   -- for this text's walks alone
set_option linter.unusedVariables false
set_option linter.unusedSimpArgs false

/-! ### float11_word: function 31 -/
mutual
def float11_word.j0 : Nat → Bool → ByteArray → Bool → Option (Int)
 | 0, _, _, _ => none
 | k + 1, x1, x5, x6 => if x6 = true then (some 4) else (if x5.toList = ([46, 110, 97, 110] : List UInt8) then (float11_word.j1 k x1 (x5.toList == ([46, 110, 97, 110] : List UInt8))) else (if x5.toList = ([46, 78, 97, 78] : List UInt8) then (float11_word.j1 k x1 (x5.toList == ([46, 78, 97, 78] : List UInt8))) else (float11_word.j1 k x1 (x5.toList == ([46, 78, 65, 78] : List UInt8)))))
def float11_word.j1 : Nat → Bool → Bool → Option (Int)
 | 0, _, _ => none
 | k + 1, x1, x10 => if x10 = true then (if x1 = true then (some 0) else (some 5)) else (some 0)
end
def float11_word.f (k : Nat) (a0 : ByteArray) (a1 : Bool) : Option (Int) := if a0.toList = ([46, 105, 110, 102] : List UInt8) then (float11_word.j0 k a1 a0 (a0.toList == ([46, 105, 110, 102] : List UInt8))) else (if a0.toList = ([46, 73, 110, 102] : List UInt8) then (float11_word.j0 k a1 a0 (a0.toList == ([46, 73, 110, 102] : List UInt8))) else (float11_word.j0 k a1 a0 (a0.toList == ([46, 73, 78, 70] : List UInt8))))
theorem float11_word.mono_l : ∀ k, (∀ y0 y1 y2, LeO (float11_word.j0 k y0 y1 y2) (float11_word.j0 (k + 1) y0 y1 y2)) ∧ (∀ y0 y1, LeO (float11_word.j1 k y0 y1) (float11_word.j1 (k + 1) y0 y1))
 | 0 => ⟨fun _ _ _ r h => by simp [float11_word.j0] at h, fun _ _ r h => by simp [float11_word.j1] at h⟩
 | k + 1 => by
  obtain ⟨ih0, ih1⟩ := float11_word.mono_l k
  refine ⟨?_, ?_⟩
  ·intro y0 y1 y2
   unfold float11_word.j0
   repeat' first | (with_reducible exact ih0 _ _ _) | (with_reducible exact ih1 _ _) | (with_reducible exact LeO.refl _) | (with_reducible exact LeO.none _) | (with_reducible refine LeO.ite ?_ ?_) | (with_reducible refine LeO.bind ?_ (fun _ => ?_)) | exact ih0 _ _ _ | exact ih1 _ _ | exact LeO.none _ | refine LeO.ite ?_ ?_ | refine LeO.bind ?_ (fun _ => ?_)
  ·intro y0 y1
   unfold float11_word.j1
   repeat' first | (with_reducible exact ih0 _ _ _) | (with_reducible exact ih1 _ _) | (with_reducible exact LeO.refl _) | (with_reducible exact LeO.none _) | (with_reducible refine LeO.ite ?_ ?_) | (with_reducible refine LeO.bind ?_ (fun _ => ?_)) | exact ih0 _ _ _ | exact ih1 _ _ | exact LeO.none _ | refine LeO.ite ?_ ?_ | refine LeO.bind ?_ (fun _ => ?_)
theorem float11_word.mono : ∀ a0 a1 k, LeO (float11_word.f k a0 a1) (float11_word.f (k + 1) a0 a1) := by
 intro a0 a1 k
 obtain ⟨ih0, ih1⟩ := float11_word.mono_l k
 unfold float11_word.f
 repeat' first | (with_reducible exact ih0 _ _ _) | (with_reducible exact ih1 _ _) | (with_reducible exact LeO.refl _) | (with_reducible exact LeO.none _) | (with_reducible refine LeO.ite ?_ ?_) | (with_reducible refine LeO.bind ?_ (fun _ => ?_)) | exact ih0 _ _ _ | exact ih1 _ _ | exact LeO.none _ | refine LeO.ite ?_ ?_ | refine LeO.bind ?_ (fun _ => ?_)
set_option maxHeartbeats 8000000 in
set_option maxRecDepth 100000 in
theorem float11_word.calls (k : Nat) (a0 : ByteArray) (a1 : Bool) (r : Int) (w : World) (h : float11_word.f k a0 a1 = some r) :
  Calls Tryz.prog 31 #[.string a0, .bool a1] w fun e w' => e = .returned (.int .i64 r) ∧ Drawn0 w w' := by
 have H : (if a0.toList = ([46, 105, 110, 102] : List UInt8) then (float11_word.j0 k a1 a0 (a0.toList == ([46, 105, 110, 102] : List UInt8))) else (if a0.toList = ([46, 73, 110, 102] : List UInt8) then (float11_word.j0 k a1 a0 (a0.toList == ([46, 73, 110, 102] : List UInt8))) else (float11_word.j0 k a1 a0 (a0.toList == ([46, 73, 78, 70] : List UInt8))))) = some r := h
 clear h
 have HC3 := AM H
 clear H
 go_enter Tryz.func31, Tryz.ntmps31
 go_upto_if 6 with (fail)
 go_cut [6] (fun v6 wc => ∃ (kq : Nat) (x6_2 : Bool), v6 = .bool x6_2 ∧ Aside0 (float11_word.j0 kq a1 a0 x6_2 = some r) ∧ Aside0 (kq ≤ k) ∧ Drawn0 w wc)
 case first =>
  have H := HC3.out
  clear HC3
  by_cases c4 : a0.toList = ([46, 105, 110, 102] : List UInt8)
  ·rw [if_pos c4] at H
   have c4b0 : (a0.toList == ([46, 105, 110, 102] : List UInt8)) = true := beq_iff_eq.mpr c4
   have c4b1 : (a0.toList != ([46, 105, 110, 102] : List UInt8)) = false := bne_eq_false_iff_eq.mpr c4
   clear c4
   (first | rw [c4b0] | (simp only [qi, qj]; rw [c4b0]) | skip)
   have H' := AM H
   clear H
   go_wp2
   go_meet
   case rel => exact ⟨_, ((a0.toList == ([46, 105, 110, 102] : List UInt8))), rq, H', ⟨by first | omega | exact Nat.le_refl _⟩, by repeat (first | exact Drawn0.refl _ | apply Drawn0.step)⟩
  ·rw [if_neg c4] at H
   have c4b0 : (a0.toList == ([46, 105, 110, 102] : List UInt8)) = false := beq_eq_false_iff_ne.mpr c4
   have c4b1 : (a0.toList != ([46, 105, 110, 102] : List UInt8)) = true := bne_iff_ne.mpr c4
   (first | rw [c4b0] | (simp only [qi, qj]; rw [c4b0]) | skip)
   by_cases c5 : a0.toList = ([46, 73, 110, 102] : List UInt8)
   ·rw [if_pos c5] at H
    have c5b0 : (a0.toList == ([46, 73, 110, 102] : List UInt8)) = true := beq_iff_eq.mpr c5; have c5b1 : (a0.toList != ([46, 73, 110, 102] : List UInt8)) = false := bne_eq_false_iff_eq.mpr c5; clear c5; have H' := AM H; clear H; go_wp2; go_meet
    case rel => exact ⟨_, ((a0.toList == ([46, 73, 110, 102] : List UInt8))), rq, H', ⟨by first | omega | exact Nat.le_refl _⟩, by repeat (first | exact Drawn0.refl _ | apply Drawn0.step)⟩
   ·rw [if_neg c5] at H
    have c5b0 : (a0.toList == ([46, 73, 110, 102] : List UInt8)) = false := beq_eq_false_iff_ne.mpr c5; have c5b1 : (a0.toList != ([46, 73, 110, 102] : List UInt8)) = true := bne_iff_ne.mpr c5; have H' := AM H; clear H; go_wp2; go_meet
    case rel => exact ⟨_, ((a0.toList == ([46, 73, 78, 70] : List UInt8))), rq, H', ⟨by first | omega | exact Nat.le_refl _⟩, by repeat (first | exact Drawn0.refl _ | apply Drawn0.step)⟩
 case rest =>
  clear HC3
  obtain ⟨kq, x6_2, rfl, HA, HJ2, ⟨mc2, rfl⟩⟩ := hcut
  cases kq with
  | zero => exact absurd HA.out (by simp [float11_word.j0])
  | succ kj2 =>
   have H := HA.out
   clear HA
   simp only [float11_word.j0] at H
   by_cases c6 : x6_2 = true
   ·subst c6
    have H1 : (some 4) = some r := by rw [if_pos rfl] at H; exact H
    clear H; have H := H1; clear H1; obtain rfl := Option.some.inj H; go_wp2; go_ret; exact ⟨rq, by repeat (first | exact Drawn0.refl _ | apply Drawn0.step)⟩
   ·replace c6 := Bool.eq_false_iff.mpr c6
    subst c6; have H1 : (if a0.toList = ([46, 110, 97, 110] : List UInt8) then (float11_word.j1 kj2 a1 (a0.toList == ([46, 110, 97, 110] : List UInt8))) else (if a0.toList = ([46, 78, 97, 78] : List UInt8) then (float11_word.j1 kj2 a1 (a0.toList == ([46, 78, 97, 78] : List UInt8))) else (float11_word.j1 kj2 a1 (a0.toList == ([46, 78, 65, 78] : List UInt8))))) = some r := by rw [if_neg (show ¬ (false = true) by decide)] at H; exact H
    clear H; have H := H1; clear H1; have HC7 := AM H; clear H; go_upto_if 10 with (fail)
    go_cut [10] (fun v10 wc => ∃ (kq : Nat) (x10_6 : Bool), v10 = .bool x10_6 ∧ Aside0 (float11_word.j1 kq a1 x10_6 = some r) ∧ Aside0 (kq ≤ kj2) ∧ Drawn0 w wc)
    case first =>
     have H := HC7.out; clear HC7; by_cases c8 : a0.toList = ([46, 110, 97, 110] : List UInt8)
     ·rw [if_pos c8] at H
      have c8b0 : (a0.toList == ([46, 110, 97, 110] : List UInt8)) = true := beq_iff_eq.mpr c8; have c8b1 : (a0.toList != ([46, 110, 97, 110] : List UInt8)) = false := bne_eq_false_iff_eq.mpr c8; clear c8; (first | rw [c8b0] | (simp only [qi, qj]; rw [c8b0]) | skip); have H' := AM H; clear H; go_wp2; go_meet
      case rel => exact ⟨_, ((a0.toList == ([46, 110, 97, 110] : List UInt8))), rq, H', ⟨by have := HJ2.out; first | omega | exact Nat.le_refl _⟩, by repeat (first | exact Drawn0.refl _ | apply Drawn0.step)⟩
     ·rw [if_neg c8] at H
      have c8b0 : (a0.toList == ([46, 110, 97, 110] : List UInt8)) = false := beq_eq_false_iff_ne.mpr c8; have c8b1 : (a0.toList != ([46, 110, 97, 110] : List UInt8)) = true := bne_iff_ne.mpr c8; (first | rw [c8b0] | (simp only [qi, qj]; rw [c8b0]) | skip); by_cases c9 : a0.toList = ([46, 78, 97, 78] : List UInt8)
      ·rw [if_pos c9] at H
       have c9b0 : (a0.toList == ([46, 78, 97, 78] : List UInt8)) = true := beq_iff_eq.mpr c9; have c9b1 : (a0.toList != ([46, 78, 97, 78] : List UInt8)) = false := bne_eq_false_iff_eq.mpr c9; clear c9; have H' := AM H; clear H; go_wp2; go_meet
       case rel => exact ⟨_, ((a0.toList == ([46, 78, 97, 78] : List UInt8))), rq, H', ⟨by have := HJ2.out; first | omega | exact Nat.le_refl _⟩, by repeat (first | exact Drawn0.refl _ | apply Drawn0.step)⟩
      ·rw [if_neg c9] at H
       have c9b0 : (a0.toList == ([46, 78, 97, 78] : List UInt8)) = false := beq_eq_false_iff_ne.mpr c9; have c9b1 : (a0.toList != ([46, 78, 97, 78] : List UInt8)) = true := bne_iff_ne.mpr c9; have H' := AM H; clear H; go_wp2; go_meet
       case rel => exact ⟨_, ((a0.toList == ([46, 78, 65, 78] : List UInt8))), rq, H', ⟨by have := HJ2.out; first | omega | exact Nat.le_refl _⟩, by repeat (first | exact Drawn0.refl _ | apply Drawn0.step)⟩
    case rest =>
     clear HC7; try clear c6
     obtain ⟨kq, x10_6, rfl, HA, HJ6, ⟨mc6, rfl⟩⟩ := hcut; cases kq with
     | zero => exact absurd HA.out (by simp [float11_word.j1])
     | succ kj6 =>
      have H := HA.out; clear HA; simp only [float11_word.j1] at H; by_cases c10 : x10_6 = true
      ·subst c10
       have H1 : (if a1 = true then (some 0) else (some 5)) = some r := by rw [if_pos rfl] at H; exact H
       clear H; have H := H1; clear H1; by_cases c11 : a1 = true
       ·subst c11
        have H1 : (some 0) = some r := by rw [if_pos rfl] at H; exact H
        clear H; have H := H1; clear H1; obtain rfl := Option.some.inj H; go_wp2; go_ret; exact ⟨rq, by repeat (first | exact Drawn0.refl _ | apply Drawn0.step)⟩
       ·replace c11 := Bool.eq_false_iff.mpr c11
        subst c11; have H1 : (some 5) = some r := by rw [if_neg (show ¬ (false = true) by decide)] at H; exact H
        clear H; have H := H1; clear H1; obtain rfl := Option.some.inj H; go_wp2; go_ret; exact ⟨rq, by repeat (first | exact Drawn0.refl _ | apply Drawn0.step)⟩
      ·replace c10 := Bool.eq_false_iff.mpr c10
       subst c10; have H1 : (some 0) = some r := by rw [if_neg (show ¬ (false = true) by decide)] at H; exact H
       clear H; have H := H1; clear H1; obtain rfl := Option.some.inj H; go_wp2; go_ret; exact ⟨rq, by repeat (first | exact Drawn0.refl _ | apply Drawn0.step)⟩

/-! ### float11_digit: function 32 -/
def float11_digit.f (a0 : Int) : Option (Bool) := if a0 ≥ 48 then (some (decide (a0 ≤ 57))) else (some false)
set_option maxHeartbeats 8000000 in
set_option maxRecDepth 100000 in
theorem float11_digit.calls (a0 : Int) (r : Bool) (w : World) (h : float11_digit.f a0 = some r) :
  Calls Tryz.prog 32 #[.int .u8 a0] w fun e w' => e = .returned (.bool r) ∧ Drawn0 w w' := by
 have H : (if a0 ≥ 48 then (some (decide (a0 ≤ 57))) else (some false)) = some r := h
 clear h
 by_cases c2 : a0 ≥ 48
 ·rw [if_pos c2] at H
  have c2b0 : decide (48 ≤ a0) = true := decide_eq_true c2
  clear c2
  obtain rfl := Option.some.inj H
  go_enter Tryz.func32, Tryz.ntmps32
  go_wp2
  go_ret
  exact ⟨rq, by repeat (first | exact Drawn0.refl _ | apply Drawn0.step)⟩
 ·rw [if_neg c2] at H
  have c2b0 : decide (48 ≤ a0) = false := decide_eq_false c2
  clear c2
  obtain rfl := Option.some.inj H
  go_enter Tryz.func32, Tryz.ntmps32
  go_wp2
  go_ret
  exact ⟨rq, by repeat (first | exact Drawn0.refl _ | apply Drawn0.step)⟩

/-! ### float11_row: function 33 -/
def float11_row.l0 : Nat → ByteArray → Int → Option (Int)
 | 0, _, _ => none
 | k + 1, x0, x3 => if x3 < (x0.size : Int) then (if 0 ≤ x3 then (if (bt x0 x3) = 95 then (float11_row.l0 k x0 (wrap64 (x3 + 1))) else ((float11_digit.f (bt x0 x3)).bind fun t101 => (if t101 = true then (float11_row.l0 k x0 (wrap64 (x3 + 1))) else (some x3)))) else (none)) else (some x3)
def float11_row.f (k : Nat) (a0 : ByteArray) : Option (Int) := float11_row.l0 k a0 0
theorem float11_row.mono_l : ∀ k, (∀ y0 y1, LeO (float11_row.l0 k y0 y1) (float11_row.l0 (k + 1) y0 y1))
 | 0 => fun _ _ r h => by simp [float11_row.l0] at h
 | k + 1 => by
  have ih0 := float11_row.mono_l k
  ·intro y0 y1
   unfold float11_row.l0
   repeat' first | (with_reducible exact ih0 _ _) | (with_reducible exact LeO.refl _) | (with_reducible exact LeO.none _) | (with_reducible refine LeO.ite ?_ ?_) | (with_reducible refine LeO.bind ?_ (fun _ => ?_)) | exact ih0 _ _ | exact LeO.none _ | refine LeO.ite ?_ ?_ | refine LeO.bind ?_ (fun _ => ?_)
theorem float11_row.mono : ∀ a0 k, LeO (float11_row.f k a0) (float11_row.f (k + 1) a0) := by
 intro a0 k
 have ih0 := float11_row.mono_l k
 unfold float11_row.f
 repeat' first | (with_reducible exact ih0 _ _) | (with_reducible exact LeO.refl _) | (with_reducible exact LeO.none _) | (with_reducible refine LeO.ite ?_ ?_) | (with_reducible refine LeO.bind ?_ (fun _ => ?_)) | exact ih0 _ _ | exact LeO.none _ | refine LeO.ite ?_ ?_ | refine LeO.bind ?_ (fun _ => ?_)
set_option maxHeartbeats 8000000 in
set_option maxRecDepth 100000 in
theorem float11_row.calls (k : Nat) (a0 : ByteArray) (r : Int) (w : World) (h : float11_row.f k a0 = some r) :
  Calls Tryz.prog 33 #[.string a0] w fun e w' => e = .returned (.int .i64 r) ∧ Drawn0 w w' := by
 have H : (float11_row.l0 k a0 0) = some r := h
 clear h
 have H' := AM H
 clear H
 go_enter Tryz.func33, Tryz.ntmps33
 go_wp2
 go_loopg [3] k (fun kq v3 w' => ∃ (x3_1 : Int), v3 = .int .i64 x3_1 ∧ Aside0 (float11_row.l0 kq a0 x3_1 = some r) ∧ Aside0 (kq ≤ k) ∧ Drawn0 w w')
 case atStart => exact ⟨(0), rq, H', ⟨Nat.le_refl _⟩, by repeat (first | exact Drawn0.refl _ | apply Drawn0.step)⟩
 case round =>
  clear H'
  obtain ⟨x3_1, rfl, HA, HK1, ⟨m1, rfl⟩⟩ := hrel
  cases gk with
  | zero => exact absurd HA.out (by simp [float11_row.l0])
  | succ k1 =>
   have H := HA.out
   clear HA
   simp only [float11_row.l0] at H
   by_cases c2 : x3_1 < (a0.size : Int)
   ·rw [if_pos c2] at H
    have c2b0 : decide (x3_1 < (a0.size : Int)) = true := decide_eq_true c2; clear c2; by_cases c3 : 0 ≤ x3_1
    ·rw [if_pos c3] at H
     have c3b0 : decide (0 ≤ x3_1) = true := decide_eq_true c3; clear c3; by_cases c5 : (bt a0 x3_1) = 95
     ·rw [if_pos c5] at H
      have c5b0 : ((bt a0 x3_1) == 95) = true := beq_iff_eq.mpr c5; have c5b1 : ((bt a0 x3_1) != 95) = false := bne_eq_false_iff_eq.mpr c5; clear c5; have H' := AM H; clear H; have p4 : 0 ≤ (x3_1 : Int) := od; have q4 : x3_1 < (a0.size : Int) := od; have hx4 := bt_at a0 x3_1; replace p4 := eq_true p4; replace q4 := eq_true q4; go_wp2; go_roundg k1
      case measure => have := HK1.out; omega
      case rel => exact ⟨(wrap64 (x3_1 + 1)), rq, H', ⟨by have := HK1.out; omega⟩, by repeat (first | exact Drawn0.refl _ | apply Drawn0.step)⟩
     ·rw [if_neg c5] at H
      have c5b0 : ((bt a0 x3_1) == 95) = false := beq_eq_false_iff_ne.mpr c5; have c5b1 : ((bt a0 x3_1) != 95) = true := bne_iff_ne.mpr c5; replace H := Option.bind_eq_some_iff.mp H; obtain ⟨t101, A70, H⟩ := H; replace H : (if t101 = true then (float11_row.l0 k1 a0 (wrap64 (x3_1 + 1))) else (some x3_1)) = some r := H; have A7 := AM A70; clear A70; by_cases c8 : t101 = true
      ·subst c8
       have H1 : (float11_row.l0 k1 a0 (wrap64 (x3_1 + 1))) = some r := by rw [if_pos rfl] at H; exact H
       clear H; have H := H1; clear H1; have H' := AM H; clear H; have p4 : 0 ≤ (x3_1 : Int) := od; have q4 : x3_1 < (a0.size : Int) := od; have hx4 := bt_at a0 x3_1; replace p4 := eq_true p4; replace q4 := eq_true q4; have p6 : 0 ≤ (x3_1 : Int) := od; have q6 : x3_1 < (a0.size : Int) := od; have hx6 := bt_at a0 x3_1; replace p6 := eq_true p6; replace q6 := eq_true q6; go_wp2_with (first | (go_at_call 32; (try (rename_i hK_; simp only [List.append] at hK_)); (with_reducible refine (float11_digit.calls (bt a0 x3_1) true _ A7.out).mono ?_); rintro e w' ⟨rfl, ⟨nd, rfl⟩⟩)); go_roundg k1
       case measure => have := HK1.out; omega
       case rel => exact ⟨(wrap64 (x3_1 + 1)), rq, H', ⟨by have := HK1.out; omega⟩, by repeat (first | exact Drawn0.refl _ | apply Drawn0.step)⟩
      ·replace c8 := Bool.eq_false_iff.mpr c8
       subst c8; have H1 : (some x3_1) = some r := by rw [if_neg (show ¬ (false = true) by decide)] at H; exact H
       clear H; have H := H1; clear H1; obtain rfl := Option.some.inj H; have p4 : 0 ≤ (x3_1 : Int) := od; have q4 : x3_1 < (a0.size : Int) := od; have hx4 := bt_at a0 x3_1; replace p4 := eq_true p4; replace q4 := eq_true q4; have p6 : 0 ≤ (x3_1 : Int) := od; have q6 : x3_1 < (a0.size : Int) := od; have hx6 := bt_at a0 x3_1; replace p6 := eq_true p6; replace q6 := eq_true q6; go_wp2_with (first | (go_at_call 32; (try (rename_i hK_; simp only [List.append] at hK_)); (with_reducible refine (float11_digit.calls (bt a0 x3_1) false _ A7.out).mono ?_); rintro e w' ⟨rfl, ⟨nd, rfl⟩⟩)); go_ret; exact ⟨rq, by repeat (first | exact Drawn0.refl _ | apply Drawn0.step)⟩
    ·rw [if_neg c3] at H
     exact absurd H (by simp)
   ·rw [if_neg c2] at H
    have c2b0 : decide (x3_1 < (a0.size : Int)) = false := decide_eq_false c2; clear c2; obtain rfl := Option.some.inj H; go_wp2; go_ret; exact ⟨rq, by repeat (first | exact Drawn0.refl _ | apply Drawn0.step)⟩

/-! ### float11_sixty: function 34 -/
def float11_sixty.j0 : Nat → ByteArray → Bool → Option (Int)
 | 0, _, _ => none
 | k + 1, x0, x3 => if x3 = true then (some 3) else (if (x0.size : Int) > 1 then (if 0 < (x0.size : Int) then (if (bt x0 0) = 58 then (if 1 < (x0.size : Int) then ((float11_digit.f (bt x0 1)).bind fun t103 => (if t103 = true then (some 2) else (some 0))) else (none)) else (some 0)) else (none)) else (some 0))
def float11_sixty.f (k : Nat) (a0 : ByteArray) : Option (Int) := if (a0.size : Int) > 2 then (if 0 < (a0.size : Int) then (if (bt a0 0) = 58 then (if 1 < (a0.size : Int) then (if (bt a0 1) ≥ 48 then (if (bt a0 1) ≤ 53 then (if 2 < (a0.size : Int) then ((float11_digit.f (bt a0 2)).bind fun t102 => (float11_sixty.j0 k a0 t102)) else (none)) else (float11_sixty.j0 k a0 false)) else (float11_sixty.j0 k a0 false)) else (none)) else (float11_sixty.j0 k a0 false)) else (none)) else (float11_sixty.j0 k a0 false)
theorem float11_sixty.mono_l : ∀ k, (∀ y0 y1, LeO (float11_sixty.j0 k y0 y1) (float11_sixty.j0 (k + 1) y0 y1))
 | 0 => fun _ _ r h => by simp [float11_sixty.j0] at h
 | k + 1 => by
  have ih0 := float11_sixty.mono_l k
  ·intro y0 y1
   unfold float11_sixty.j0
   repeat' first | (with_reducible exact ih0 _ _) | (with_reducible exact LeO.refl _) | (with_reducible exact LeO.none _) | (with_reducible refine LeO.ite ?_ ?_) | (with_reducible refine LeO.bind ?_ (fun _ => ?_)) | exact ih0 _ _ | exact LeO.none _ | refine LeO.ite ?_ ?_ | refine LeO.bind ?_ (fun _ => ?_)
theorem float11_sixty.mono : ∀ a0 k, LeO (float11_sixty.f k a0) (float11_sixty.f (k + 1) a0) := by
 intro a0 k
 have ih0 := float11_sixty.mono_l k
 unfold float11_sixty.f
 repeat' first | (with_reducible exact ih0 _ _) | (with_reducible exact LeO.refl _) | (with_reducible exact LeO.none _) | (with_reducible refine LeO.ite ?_ ?_) | (with_reducible refine LeO.bind ?_ (fun _ => ?_)) | exact ih0 _ _ | exact LeO.none _ | refine LeO.ite ?_ ?_ | refine LeO.bind ?_ (fun _ => ?_)
set_option maxHeartbeats 8000000 in
set_option maxRecDepth 100000 in
theorem float11_sixty.calls (k : Nat) (a0 : ByteArray) (r : Int) (w : World) (h : float11_sixty.f k a0 = some r) :
  Calls Tryz.prog 34 #[.string a0] w fun e w' => e = .returned (.int .i64 r) ∧ Drawn0 w w' := by
 have H : (if (a0.size : Int) > 2 then (if 0 < (a0.size : Int) then (if (bt a0 0) = 58 then (if 1 < (a0.size : Int) then (if (bt a0 1) ≥ 48 then (if (bt a0 1) ≤ 53 then (if 2 < (a0.size : Int) then ((float11_digit.f (bt a0 2)).bind fun t102 => (float11_sixty.j0 k a0 t102)) else (none)) else (float11_sixty.j0 k a0 false)) else (float11_sixty.j0 k a0 false)) else (none)) else (float11_sixty.j0 k a0 false)) else (none)) else (float11_sixty.j0 k a0 false)) = some r := h
 clear h
 have HC2 := AM H
 clear H
 go_enter Tryz.func34, Tryz.ntmps34
 go_upto_region 1 with (fail)
 go_cut [3] (fun v3 wc => ∃ (kq : Nat) (x3_1 : Bool), v3 = .bool x3_1 ∧ Aside0 (float11_sixty.j0 kq a0 x3_1 = some r) ∧ Aside0 (kq ≤ k) ∧ Drawn0 w wc)
 case first =>
  have H := HC2.out
  clear HC2
  by_cases c3 : (a0.size : Int) > 2
  ·rw [if_pos c3] at H
   have c3b0 : decide (2 < (a0.size : Int)) = true := decide_eq_true c3
   have c3b1 : decide (2 < a0.size) = true := decide_eq_true (by omega)
   clear c3
   (first | rw [c3b0] | (simp only [qi, qj]; rw [c3b0]) | skip)
   by_cases c4 : 0 < (a0.size : Int)
   ·rw [if_pos c4] at H
    have c4b0 : decide (0 < (a0.size : Int)) = true := decide_eq_true c4; have c4b1 : decide (0 < a0.size) = true := decide_eq_true (by omega); clear c4; by_cases c6 : (bt a0 0) = 58
    ·rw [if_pos c6] at H
     have c6b0 : ((bt a0 0) == 58) = true := beq_iff_eq.mpr c6; have c6b1 : ((bt a0 0) != 58) = false := bne_eq_false_iff_eq.mpr c6; clear c6; by_cases c7 : 1 < (a0.size : Int)
     ·rw [if_pos c7] at H
      have c7b0 : decide (1 < (a0.size : Int)) = true := decide_eq_true c7; have c7b1 : decide (1 < a0.size) = true := decide_eq_true (by omega); clear c7; by_cases c9 : (bt a0 1) ≥ 48
      ·rw [if_pos c9] at H
       have c9b0 : decide (48 ≤ (bt a0 1)) = true := decide_eq_true c9; clear c9; by_cases c11 : (bt a0 1) ≤ 53
       ·rw [if_pos c11] at H
        have c11b0 : decide ((bt a0 1) ≤ 53) = true := decide_eq_true c11; clear c11; by_cases c12 : 2 < (a0.size : Int)
        ·rw [if_pos c12] at H
         have c12b0 : decide (2 < (a0.size : Int)) = true := decide_eq_true c12; have c12b1 : decide (2 < a0.size) = true := decide_eq_true (by omega); clear c12; replace H := Option.bind_eq_some_iff.mp H; obtain ⟨t102, A140, H⟩ := H; replace H : (float11_sixty.j0 k a0 t102) = some r := H; have A14 := AM A140; clear A140; have H' := AM H; clear H; have p5 : 0 ≤ (0 : Int) := (by omega); have q5 : 0 < a0.size := (by have : (0 : Int) < (a0.size : Int) := od; omega); have hx5 : ∀ h : 0 < a0.size, ((a0[0]'h).toNat : Int) = bt a0 0 := bt_at a0 0; clear p5; have qi5 : (0 < (a0.size : Int)) = True := eq_true (od); replace q5 := eq_true q5; have p8 : 0 ≤ (1 : Int) := (by omega); have q8 : 1 < a0.size := (by have : (1 : Int) < (a0.size : Int) := od; omega); have hx8 : ∀ h : 1 < a0.size, ((a0[1]'h).toNat : Int) = bt a0 1 := bt_at a0 1; clear p8; have qi8 : (1 < (a0.size : Int)) = True := eq_true (od); replace q8 := eq_true q8; have p10 : 0 ≤ (1 : Int) := (by omega); have q10 : 1 < a0.size := (by have : (1 : Int) < (a0.size : Int) := od; omega); have hx10 : ∀ h : 1 < a0.size, ((a0[1]'h).toNat : Int) = bt a0 1 := bt_at a0 1; clear p10; have qi10 : (1 < (a0.size : Int)) = True := eq_true (od); replace q10 := eq_true q10; have p13 : 0 ≤ (2 : Int) := (by omega); have q13 : 2 < a0.size := (by have : (2 : Int) < (a0.size : Int) := od; omega); have hx13 : ∀ h : 2 < a0.size, ((a0[2]'h).toNat : Int) = bt a0 2 := bt_at a0 2; clear p13; have qi13 : (2 < (a0.size : Int)) = True := eq_true (od); replace q13 := eq_true q13; go_wp2_with (first | (go_at_call 32; (try (rename_i hK_; simp only [List.append] at hK_)); (with_reducible refine (float11_digit.calls (bt a0 2) t102 _ A14.out).mono ?_); rintro e w' ⟨rfl, ⟨nd, rfl⟩⟩)); go_meet
         case rel => exact ⟨_, (t102), rq, H', ⟨by first | omega | exact Nat.le_refl _⟩, by repeat (first | exact Drawn0.refl _ | apply Drawn0.step)⟩
        ·rw [if_neg c12] at H
         exact absurd H (by simp)
       ·rw [if_neg c11] at H
        have c11b0 : decide ((bt a0 1) ≤ 53) = false := decide_eq_false c11; clear c11; have H' := AM H; clear H; have p5 : 0 ≤ (0 : Int) := (by omega); have q5 : 0 < a0.size := (by have : (0 : Int) < (a0.size : Int) := od; omega); have hx5 : ∀ h : 0 < a0.size, ((a0[0]'h).toNat : Int) = bt a0 0 := bt_at a0 0; clear p5; have qi5 : (0 < (a0.size : Int)) = True := eq_true (od); replace q5 := eq_true q5; have p8 : 0 ≤ (1 : Int) := (by omega); have q8 : 1 < a0.size := (by have : (1 : Int) < (a0.size : Int) := od; omega); have hx8 : ∀ h : 1 < a0.size, ((a0[1]'h).toNat : Int) = bt a0 1 := bt_at a0 1; clear p8; have qi8 : (1 < (a0.size : Int)) = True := eq_true (od); replace q8 := eq_true q8; have p10 : 0 ≤ (1 : Int) := (by omega); have q10 : 1 < a0.size := (by have : (1 : Int) < (a0.size : Int) := od; omega); have hx10 : ∀ h : 1 < a0.size, ((a0[1]'h).toNat : Int) = bt a0 1 := bt_at a0 1; clear p10; have qi10 : (1 < (a0.size : Int)) = True := eq_true (od); replace q10 := eq_true q10; go_wp2; go_meet
        case rel => exact ⟨_, (false), rq, H', ⟨by first | omega | exact Nat.le_refl _⟩, by repeat (first | exact Drawn0.refl _ | apply Drawn0.step)⟩
      ·rw [if_neg c9] at H
       have c9b0 : decide (48 ≤ (bt a0 1)) = false := decide_eq_false c9; clear c9; have H' := AM H; clear H; have p5 : 0 ≤ (0 : Int) := (by omega); have q5 : 0 < a0.size := (by have : (0 : Int) < (a0.size : Int) := od; omega); have hx5 : ∀ h : 0 < a0.size, ((a0[0]'h).toNat : Int) = bt a0 0 := bt_at a0 0; clear p5; have qi5 : (0 < (a0.size : Int)) = True := eq_true (od); replace q5 := eq_true q5; have p8 : 0 ≤ (1 : Int) := (by omega); have q8 : 1 < a0.size := (by have : (1 : Int) < (a0.size : Int) := od; omega); have hx8 : ∀ h : 1 < a0.size, ((a0[1]'h).toNat : Int) = bt a0 1 := bt_at a0 1; clear p8; have qi8 : (1 < (a0.size : Int)) = True := eq_true (od); replace q8 := eq_true q8; go_wp2; go_meet
       case rel => exact ⟨_, (false), rq, H', ⟨by first | omega | exact Nat.le_refl _⟩, by repeat (first | exact Drawn0.refl _ | apply Drawn0.step)⟩
     ·rw [if_neg c7] at H
      exact absurd H (by simp)
    ·rw [if_neg c6] at H
     have c6b0 : ((bt a0 0) == 58) = false := beq_eq_false_iff_ne.mpr c6; have c6b1 : ((bt a0 0) != 58) = true := bne_iff_ne.mpr c6; have H' := AM H; clear H; have p5 : 0 ≤ (0 : Int) := (by omega); have q5 : 0 < a0.size := (by have : (0 : Int) < (a0.size : Int) := od; omega); have hx5 : ∀ h : 0 < a0.size, ((a0[0]'h).toNat : Int) = bt a0 0 := bt_at a0 0; clear p5; have qi5 : (0 < (a0.size : Int)) = True := eq_true (od); replace q5 := eq_true q5; go_wp2; go_meet
     case rel => exact ⟨_, (false), rq, H', ⟨by first | omega | exact Nat.le_refl _⟩, by repeat (first | exact Drawn0.refl _ | apply Drawn0.step)⟩
   ·rw [if_neg c4] at H
    exact absurd H (by simp)
  ·rw [if_neg c3] at H
   have c3b0 : decide (2 < (a0.size : Int)) = false := decide_eq_false c3
   have c3b1 : decide (2 < a0.size) = false := decide_eq_false (by omega)
   clear c3
   (first | rw [c3b0] | (simp only [qi, qj]; rw [c3b0]) | skip)
   have H' := AM H
   clear H
   go_wp2
   go_meet
   case rel => exact ⟨_, (false), rq, H', ⟨by first | omega | exact Nat.le_refl _⟩, by repeat (first | exact Drawn0.refl _ | apply Drawn0.step)⟩
 case rest =>
  clear HC2
  obtain ⟨kq, x3_1, rfl, HA, HJ1, ⟨mc1, rfl⟩⟩ := hcut
  cases kq with
  | zero => exact absurd HA.out (by simp [float11_sixty.j0])
  | succ kj1 =>
   have H := HA.out
   clear HA
   simp only [float11_sixty.j0] at H
   by_cases c15 : x3_1 = true
   ·subst c15
    have H1 : (some 3) = some r := by rw [if_pos rfl] at H; exact H
    clear H; have H := H1; clear H1; obtain rfl := Option.some.inj H; go_wp2; go_ret; exact ⟨rq, by repeat (first | exact Drawn0.refl _ | apply Drawn0.step)⟩
   ·replace c15 := Bool.eq_false_iff.mpr c15
    subst c15; have H1 : (if (a0.size : Int) > 1 then (if 0 < (a0.size : Int) then (if (bt a0 0) = 58 then (if 1 < (a0.size : Int) then ((float11_digit.f (bt a0 1)).bind fun t103 => (if t103 = true then (some 2) else (some 0))) else (none)) else (some 0)) else (none)) else (some 0)) = some r := by rw [if_neg (show ¬ (false = true) by decide)] at H; exact H
    clear H; have H := H1; clear H1; by_cases c16 : (a0.size : Int) > 1
    ·rw [if_pos c16] at H
     have c16b0 : decide (1 < (a0.size : Int)) = true := decide_eq_true c16; have c16b1 : decide (1 < a0.size) = true := decide_eq_true (by omega); clear c16; by_cases c17 : 0 < (a0.size : Int)
     ·rw [if_pos c17] at H
      have c17b0 : decide (0 < (a0.size : Int)) = true := decide_eq_true c17; have c17b1 : decide (0 < a0.size) = true := decide_eq_true (by omega); clear c17; by_cases c19 : (bt a0 0) = 58
      ·rw [if_pos c19] at H
       have c19b0 : ((bt a0 0) == 58) = true := beq_iff_eq.mpr c19; have c19b1 : ((bt a0 0) != 58) = false := bne_eq_false_iff_eq.mpr c19; clear c19; by_cases c20 : 1 < (a0.size : Int)
       ·rw [if_pos c20] at H
        have c20b0 : decide (1 < (a0.size : Int)) = true := decide_eq_true c20; have c20b1 : decide (1 < a0.size) = true := decide_eq_true (by omega); clear c20; replace H := Option.bind_eq_some_iff.mp H; obtain ⟨t103, A220, H⟩ := H; replace H : (if t103 = true then (some 2) else (some 0)) = some r := H; have A22 := AM A220; clear A220; by_cases c23 : t103 = true
        ·subst c23
         have H1 : (some 2) = some r := by rw [if_pos rfl] at H; exact H
         clear H; have H := H1; clear H1; obtain rfl := Option.some.inj H; have p18 : 0 ≤ (0 : Int) := (by omega); have q18 : 0 < a0.size := (by have : (0 : Int) < (a0.size : Int) := od; omega); have hx18 : ∀ h : 0 < a0.size, ((a0[0]'h).toNat : Int) = bt a0 0 := bt_at a0 0; clear p18; have qi18 : (0 < (a0.size : Int)) = True := eq_true (od); replace q18 := eq_true q18; have p21 : 0 ≤ (1 : Int) := (by omega); have q21 : 1 < a0.size := (by have : (1 : Int) < (a0.size : Int) := od; omega); have hx21 : ∀ h : 1 < a0.size, ((a0[1]'h).toNat : Int) = bt a0 1 := bt_at a0 1; clear p21; have qi21 : (1 < (a0.size : Int)) = True := eq_true (od); replace q21 := eq_true q21; go_wp2_with (first | (go_at_call 32; (try (rename_i hK_; simp only [List.append] at hK_)); (with_reducible refine (float11_digit.calls (bt a0 1) true _ A22.out).mono ?_); rintro e w' ⟨rfl, ⟨nd, rfl⟩⟩)); go_ret; exact ⟨rq, by repeat (first | exact Drawn0.refl _ | apply Drawn0.step)⟩
        ·replace c23 := Bool.eq_false_iff.mpr c23
         subst c23; have H1 : (some 0) = some r := by rw [if_neg (show ¬ (false = true) by decide)] at H; exact H
         clear H; have H := H1; clear H1; obtain rfl := Option.some.inj H; have p18 : 0 ≤ (0 : Int) := (by omega); have q18 : 0 < a0.size := (by have : (0 : Int) < (a0.size : Int) := od; omega); have hx18 : ∀ h : 0 < a0.size, ((a0[0]'h).toNat : Int) = bt a0 0 := bt_at a0 0; clear p18; have qi18 : (0 < (a0.size : Int)) = True := eq_true (od); replace q18 := eq_true q18; have p21 : 0 ≤ (1 : Int) := (by omega); have q21 : 1 < a0.size := (by have : (1 : Int) < (a0.size : Int) := od; omega); have hx21 : ∀ h : 1 < a0.size, ((a0[1]'h).toNat : Int) = bt a0 1 := bt_at a0 1; clear p21; have qi21 : (1 < (a0.size : Int)) = True := eq_true (od); replace q21 := eq_true q21; go_wp2_with (first | (go_at_call 32; (try (rename_i hK_; simp only [List.append] at hK_)); (with_reducible refine (float11_digit.calls (bt a0 1) false _ A22.out).mono ?_); rintro e w' ⟨rfl, ⟨nd, rfl⟩⟩)); go_ret; exact ⟨rq, by repeat (first | exact Drawn0.refl _ | apply Drawn0.step)⟩
       ·rw [if_neg c20] at H
        exact absurd H (by simp)
      ·rw [if_neg c19] at H
       have c19b0 : ((bt a0 0) == 58) = false := beq_eq_false_iff_ne.mpr c19; have c19b1 : ((bt a0 0) != 58) = true := bne_iff_ne.mpr c19; obtain rfl := Option.some.inj H; have p18 : 0 ≤ (0 : Int) := (by omega); have q18 : 0 < a0.size := (by have : (0 : Int) < (a0.size : Int) := od; omega); have hx18 : ∀ h : 0 < a0.size, ((a0[0]'h).toNat : Int) = bt a0 0 := bt_at a0 0; clear p18; have qi18 : (0 < (a0.size : Int)) = True := eq_true (od); replace q18 := eq_true q18; go_wp2; go_ret; exact ⟨rq, by repeat (first | exact Drawn0.refl _ | apply Drawn0.step)⟩
     ·rw [if_neg c17] at H
      exact absurd H (by simp)
    ·rw [if_neg c16] at H
     have c16b0 : decide (1 < (a0.size : Int)) = false := decide_eq_false c16; have c16b1 : decide (1 < a0.size) = false := decide_eq_false (by omega); clear c16; obtain rfl := Option.some.inj H; go_wp2; go_ret; exact ⟨rq, by repeat (first | exact Drawn0.refl _ | apply Drawn0.step)⟩

/-! ### strings_Trim: function 35 -/

def strings_Trim.f (a0 : ByteArray) (a1 : ByteArray) : Option (ByteArray) := if a1.data.toList.all (fun b => decide (b.toNat < 128)) = true ∧ a1.size < 1000 ∧ a0.size ≤ 9223372036854775807 then some ⟨(Lib.trimS a0.data.toList a1.data.toList).toArray⟩ else none
theorem strings_Trim.calls (a0 : ByteArray) (a1 : ByteArray) (r : ByteArray) (w : World) (h : strings_Trim.f a0 a1 = some r) :
  Calls Tryz.prog 35 #[.string a0, .string a1] w fun e w' => e = .returned (.string r) ∧ Below w.heap.size w w' := by
 unfold strings_Trim.f at h
 split at h
 ·rename_i hc
  obtain ⟨h1, h2, h3⟩ := hc
  obtain rfl := Option.some.inj h
  refine (Any.strings_Trim_laid Tryz.lays160 (by kernel_rfl) a0 a1 w h3 (by omega) (fun j b hb => ?_)).mono fun e w' hh => hh
  exact of_decide_eq_true (List.all_eq_true.1 h1 b (List.mem_of_getElem? hb))
 ·cases h

/-! ### strings_TrimLeft: function 42 -/

def strings_TrimLeft.f (a0 : ByteArray) (a1 : ByteArray) : Option (ByteArray) := if a1.data.toList.all (fun b => decide (b.toNat < 128)) = true ∧ a1.size < 1000 ∧ a0.size ≤ 9223372036854775807 then some ⟨(Lib.trimLeftS a0.data.toList a1.data.toList).toArray⟩ else none
theorem strings_TrimLeft.calls (a0 : ByteArray) (a1 : ByteArray) (r : ByteArray) (w : World) (h : strings_TrimLeft.f a0 a1 = some r) :
  Calls Tryz.prog 42 #[.string a0, .string a1] w fun e w' => e = .returned (.string r) ∧ Below w.heap.size w w' := by
 unfold strings_TrimLeft.f at h
 split at h
 ·rename_i hc
  obtain ⟨h1, h2, h3⟩ := hc
  obtain rfl := Option.some.inj h
  refine (Any.strings_TrimLeft_laid Tryz.lays161 (by kernel_rfl) a0 a1 w (by omega) (fun j b hb => ?_)).mono fun e w' hh => hh
  exact of_decide_eq_true (List.all_eq_true.1 h1 b (List.mem_of_getElem? hb))
 ·cases h

end Go.Proofs.YtkijneohhilboaaGreatDoor.PT
