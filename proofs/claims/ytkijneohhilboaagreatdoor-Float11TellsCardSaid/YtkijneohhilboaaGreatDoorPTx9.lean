/- Written by this session's own program (xprint, made over the kit's print): Lean functions with the same answers as the Go functions, and the proofs of that. Not trusted: Lean checks it. -/
import Derived.Test.YtkijneohhilboaaGreatDoorPTx0
import Derived.Test.YtkijneohhilboaaGreatDoorXW
import Derived.Test.YtkijneohhilboaaGreatDoorXZ
namespace Go.Proofs.YtkijneohhilboaaGreatDoor.PT
open Go.Proofs.YtkijneohhilboaaGreatDoor.XZ
open Go.Proofs.YtkijneohhilboaaGreatDoor.XW Go.RowKit Go.Proofs.YtkijneohhilboaaGreatDoorW.PrintWords Go.Proofs.YtkijneohhilboaaGreatDoorW.PrintLast Go.Proofs.YtkijneohhilboaaGreatDoorW.PrintMore
attribute [local go_sem] max2_int min2_int max_two min_two max_three min_three max_four min_four   -- for this text's walks alone
set_option linter.unusedVariables false
set_option linter.unusedSimpArgs false

/-! ### targumref4_IsDigit: function 24 -/
def targumref4_IsDigit.f (a0 : Int) : Option (Bool) := if a0 ≥ 48 then (some (decide (a0 ≤ 57))) else (some false)
set_option maxHeartbeats 40000000 in
set_option maxRecDepth 100000 in
theorem targumref4_IsDigit.calls (a0 : Int) (r : Bool) (w : World) (h : targumref4_IsDigit.f a0 = some r) :
  Calls Tryz.prog 24 #[.int .u8 a0] w fun e w' => e = .returned (.bool r) ∧ Drawn0 w w' := by
 have H : (if a0 ≥ 48 then (some (decide (a0 ≤ 57))) else (some false)) = some r := h
 clear h
 by_cases c2 : a0 ≥ 48
 ·rw [if_pos c2] at H
  have c2b0 : decide (48 ≤ a0) = true := decide_eq_true c2
  clear c2
  obtain rfl := Option.some.inj H
  go_enter Tryz.func24, Tryz.ntmps24
  go_wp2
  go_ret
  exact ⟨rq, by repeat (first | exact Drawn0.refl _ | apply Drawn0.step)⟩
 ·rw [if_neg c2] at H
  have c2b0 : decide (48 ≤ a0) = false := decide_eq_false c2
  clear c2
  obtain rfl := Option.some.inj H
  go_enter Tryz.func24, Tryz.ntmps24
  go_wp2
  go_ret
  exact ⟨rq, by repeat (first | exact Drawn0.refl _ | apply Drawn0.step)⟩

/-! ### targumref4_Digits: function 28 -/
def targumref4_Digits.l0 : Nat → ByteArray → Int → Option (Bool)
 | 0, _, _ => none
 | k + 1, x0, x3 => if x3 < (x0.size : Int) then (if 0 ≤ x3 then ((targumref4_IsDigit.f (bt x0 x3)).bind fun t222 => (if t222 = true then (targumref4_Digits.l0 k x0 (wrap64 (x3 + 1))) else (some false))) else (none)) else (some (decide ((x0.size : Int) > 0)))
def targumref4_Digits.f (k : Nat) (a0 : ByteArray) : Option (Bool) := targumref4_Digits.l0 k a0 0
theorem targumref4_Digits.mono_l : ∀ k, (∀ y0 y1, LeO (targumref4_Digits.l0 k y0 y1) (targumref4_Digits.l0 (k + 1) y0 y1))
 | 0 => fun _ _ r h => by simp [targumref4_Digits.l0] at h
 | k + 1 => by
  have ih0 := targumref4_Digits.mono_l k
  ·intro y0 y1
   unfold targumref4_Digits.l0
   repeat' first | (with_reducible exact ih0 _ _) | (with_reducible exact LeO.refl _) | (with_reducible exact LeO.none _) | (with_reducible refine LeO.ite ?_ ?_) | (with_reducible refine LeO.bind ?_ (fun _ => ?_)) | exact ih0 _ _ | exact LeO.none _ | refine LeO.ite ?_ ?_ | refine LeO.bind ?_ (fun _ => ?_)
theorem targumref4_Digits.mono : ∀ a0 k, LeO (targumref4_Digits.f k a0) (targumref4_Digits.f (k + 1) a0) := by
 intro a0 k
 have ih0 := targumref4_Digits.mono_l k
 unfold targumref4_Digits.f
 repeat' first | (with_reducible exact ih0 _ _) | (with_reducible exact LeO.refl _) | (with_reducible exact LeO.none _) | (with_reducible refine LeO.ite ?_ ?_) | (with_reducible refine LeO.bind ?_ (fun _ => ?_)) | exact ih0 _ _ | exact LeO.none _ | refine LeO.ite ?_ ?_ | refine LeO.bind ?_ (fun _ => ?_)
set_option maxHeartbeats 40000000 in
set_option maxRecDepth 100000 in
theorem targumref4_Digits.calls (k : Nat) (a0 : ByteArray) (r : Bool) (w : World) (h : targumref4_Digits.f k a0 = some r) :
  Calls Tryz.prog 28 #[.string a0] w fun e w' => e = .returned (.bool r) ∧ Drawn0 w w' := by
 have H : (targumref4_Digits.l0 k a0 0) = some r := h
 clear h
 have H' := AM H
 clear H
 go_enter Tryz.func28, Tryz.ntmps28
 go_wp2
 go_loopg [3] k (fun kq v3 w' => ∃ (x3_1 : Int), v3 = .int .i64 x3_1 ∧ Aside0 (targumref4_Digits.l0 kq a0 x3_1 = some r) ∧ Aside0 (kq ≤ k) ∧ Drawn0 w w')
 case atStart => exact ⟨(0), rq, H', ⟨Nat.le_refl _⟩, by repeat (first | exact Drawn0.refl _ | apply Drawn0.step)⟩
 case round =>
  clear H'
  obtain ⟨x3_1, rfl, HA, HK1, ⟨m1, rfl⟩⟩ := hrel
  cases gk with
  | zero => exact absurd HA.out (by simp [targumref4_Digits.l0])
  | succ k1 =>
   have H := HA.out
   clear HA
   simp only [targumref4_Digits.l0] at H
   by_cases c2 : x3_1 < (a0.size : Int)
   ·rw [if_pos c2] at H
    have c2b0 : decide (x3_1 < (a0.size : Int)) = true := decide_eq_true c2; clear c2; by_cases c3 : 0 ≤ x3_1
    ·rw [if_pos c3] at H
     have c3b0 : decide (0 ≤ x3_1) = true := decide_eq_true c3; clear c3; replace H := Option.bind_eq_some_iff.mp H; obtain ⟨t222, A50, H⟩ := H; replace H : (if t222 = true then (targumref4_Digits.l0 k1 a0 (wrap64 (x3_1 + 1))) else (some false)) = some r := H; have A5 := AM A50; clear A50; by_cases c6 : t222 = true
     ·subst c6
      have H1 : (targumref4_Digits.l0 k1 a0 (wrap64 (x3_1 + 1))) = some r := by rw [if_pos rfl] at H; exact H
      clear H; have H := H1; clear H1; have H' := AM H; clear H; have p4 : 0 ≤ (x3_1 : Int) := od; have q4 : x3_1 < (a0.size : Int) := od; have hx4 := bt_at a0 x3_1; replace p4 := eq_true p4; replace q4 := eq_true q4; go_wp2_with (first | ((with_reducible refine gate_callee (f := 24) rfl ?_); refine goesL_ (some 13) rfl rfl Tryz.func24 (by kernel_rfl) rfl #[.int .u8 (bt a0 x3_1)] rfl am ?_; (with_reducible refine (targumref4_IsDigit.calls (bt a0 x3_1) true _ A5.out).mono ?_); rintro e w' ⟨rfl, ⟨nd, rfl⟩⟩; refine ⟨_, rfl, ?_⟩)); go_roundg k1
      case measure => have := HK1.out; omega
      case rel => exact ⟨(wrap64 (x3_1 + 1)), rq, H', ⟨by have := HK1.out; omega⟩, by repeat (first | exact Drawn0.refl _ | apply Drawn0.step)⟩
     ·replace c6 := Bool.eq_false_iff.mpr c6
      subst c6; have H1 : (some false) = some r := by rw [if_neg (show ¬ (false = true) by decide)] at H; exact H
      clear H; have H := H1; clear H1; obtain rfl := Option.some.inj H; have p4 : 0 ≤ (x3_1 : Int) := od; have q4 : x3_1 < (a0.size : Int) := od; have hx4 := bt_at a0 x3_1; replace p4 := eq_true p4; replace q4 := eq_true q4; go_wp2_with (first | ((with_reducible refine gate_callee (f := 24) rfl ?_); refine goesL_ (some 13) rfl rfl Tryz.func24 (by kernel_rfl) rfl #[.int .u8 (bt a0 x3_1)] rfl am ?_; (with_reducible refine (targumref4_IsDigit.calls (bt a0 x3_1) false _ A5.out).mono ?_); rintro e w' ⟨rfl, ⟨nd, rfl⟩⟩; refine ⟨_, rfl, ?_⟩)); go_ret; exact ⟨rq, by repeat (first | exact Drawn0.refl _ | apply Drawn0.step)⟩
    ·rw [if_neg c3] at H
     exact absurd H (by simp)
   ·rw [if_neg c2] at H
    have c2b0 : decide (x3_1 < (a0.size : Int)) = false := decide_eq_false c2; clear c2; obtain rfl := Option.some.inj H; go_wp2; go_ret; exact ⟨rq, by repeat (first | exact Drawn0.refl _ | apply Drawn0.step)⟩

/-! ### targumref4_Good: function 29 -/
def targumref4_Good.f (k : Nat) (a0 : ByteArray) : Option (Bool) := if a0.toList = ([48] : List UInt8) then (some true) else (if (a0.size : Int) > 0 then (if 0 < (a0.size : Int) then (if (bt a0 0) = 45 then (if 1 ≤ (a0.size : Int) then ((targumref4_Digits.f k (a0.extract 1 a0.size)).bind fun t223 => (if t223 = true then (if 0 < ((a0.extract 1 a0.size).size : Int) then (some ((bt (a0.extract 1 a0.size) 0) != 48)) else (none)) else (some false))) else (none)) else ((targumref4_Digits.f k a0).bind fun t224 => (if t224 = true then (some ((bt a0 0) != 48)) else (some false)))) else (none)) else ((targumref4_Digits.f k a0).bind fun t225 => (if t225 = true then (if 0 < (a0.size : Int) then (some ((bt a0 0) != 48)) else (none)) else (some false))))
theorem targumref4_Good.mono : ∀ a0 k, LeO (targumref4_Good.f k a0) (targumref4_Good.f (k + 1) a0) := by
 intro a0 k
 unfold targumref4_Good.f
 repeat' first | (with_reducible exact targumref4_Digits.mono _ _) | (with_reducible exact LeO.refl _) | (with_reducible exact LeO.none _) | (with_reducible refine LeO.ite ?_ ?_) | (with_reducible refine LeO.bind ?_ (fun _ => ?_)) | exact targumref4_Digits.mono _ _ | exact LeO.none _ | refine LeO.ite ?_ ?_ | refine LeO.bind ?_ (fun _ => ?_)
set_option maxHeartbeats 40000000 in
set_option maxRecDepth 100000 in
theorem targumref4_Good.calls (k : Nat) (a0 : ByteArray) (r : Bool) (w : World) (h : targumref4_Good.f k a0 = some r) :
  Calls Tryz.prog 29 #[.string a0] w fun e w' => e = .returned (.bool r) ∧ Drawn0 w w' := by
 have H : (if a0.toList = ([48] : List UInt8) then (some true) else (if (a0.size : Int) > 0 then (if 0 < (a0.size : Int) then (if (bt a0 0) = 45 then (if 1 ≤ (a0.size : Int) then ((targumref4_Digits.f k (a0.extract 1 a0.size)).bind fun t223 => (if t223 = true then (if 0 < ((a0.extract 1 a0.size).size : Int) then (some ((bt (a0.extract 1 a0.size) 0) != 48)) else (none)) else (some false))) else (none)) else ((targumref4_Digits.f k a0).bind fun t224 => (if t224 = true then (some ((bt a0 0) != 48)) else (some false)))) else (none)) else ((targumref4_Digits.f k a0).bind fun t225 => (if t225 = true then (if 0 < (a0.size : Int) then (some ((bt a0 0) != 48)) else (none)) else (some false))))) = some r := h
 clear h
 by_cases c2 : a0.toList = ([48] : List UInt8)
 ·rw [if_pos c2] at H
  have c2b0 : (a0.toList == ([48] : List UInt8)) = true := beq_iff_eq.mpr c2
  have c2b1 : (a0.toList != ([48] : List UInt8)) = false := bne_eq_false_iff_eq.mpr c2
  clear c2
  obtain rfl := Option.some.inj H
  go_enter Tryz.func29, Tryz.ntmps29
  go_wp2
  go_ret
  exact ⟨rq, by repeat (first | exact Drawn0.refl _ | apply Drawn0.step)⟩
 ·rw [if_neg c2] at H
  have c2b0 : (a0.toList == ([48] : List UInt8)) = false := beq_eq_false_iff_ne.mpr c2
  have c2b1 : (a0.toList != ([48] : List UInt8)) = true := bne_iff_ne.mpr c2
  by_cases c3 : (a0.size : Int) > 0
  ·rw [if_pos c3] at H
   have c3b0 : decide (0 < (a0.size : Int)) = true := decide_eq_true c3
   have c3b1 : decide (0 < a0.size) = true := decide_eq_true (by omega)
   clear c3
   by_cases c4 : 0 < (a0.size : Int)
   ·rw [if_pos c4] at H
    have c4b0 : decide (0 < (a0.size : Int)) = true := decide_eq_true c4; have c4b1 : decide (0 < a0.size) = true := decide_eq_true (by omega); clear c4; by_cases c6 : (bt a0 0) = 45
    ·rw [if_pos c6] at H
     have c6b0 : ((bt a0 0) == 45) = true := beq_iff_eq.mpr c6; have c6b1 : ((bt a0 0) != 45) = false := bne_eq_false_iff_eq.mpr c6; clear c6; by_cases c7 : 1 ≤ (a0.size : Int)
     ·rw [if_pos c7] at H
      have c7b0 := eq_true c7; have c7b1 : decide (1 ≤ (a0.size : Int)) = true := decide_eq_true c7; clear c7; replace H := Option.bind_eq_some_iff.mp H; obtain ⟨t223, A80, H⟩ := H; replace H : (if t223 = true then (if 0 < ((a0.extract 1 a0.size).size : Int) then (some ((bt (a0.extract 1 a0.size) 0) != 48)) else (none)) else (some false)) = some r := H; have A8 := AM A80; clear A80; by_cases c9 : t223 = true
      ·subst c9
       have H1 : (if 0 < ((a0.extract 1 a0.size).size : Int) then (some ((bt (a0.extract 1 a0.size) 0) != 48)) else (none)) = some r := by rw [if_pos rfl] at H; exact H
       clear H; have H := H1; clear H1; by_cases c10 : 0 < ((a0.extract 1 a0.size).size : Int)
       ·rw [if_pos c10] at H
        have c10b0 : decide (0 < ((a0.extract 1 a0.size).size : Int)) = true := decide_eq_true c10; have c10b1 : decide (0 < (a0.extract 1 a0.size).size) = true := decide_eq_true (by omega); (try (have c10b2 : decide (0 < a0.size - 1) = true := decide_eq_true (by have h_ := c10; simp only [ByteArray.size_extract, Nat.min_self] at h_; omega))); (try (have c10b3 : decide (0 < ((a0.size - 1 : Nat) : Int)) = true := decide_eq_true (by have h_ := c10; simp only [ByteArray.size_extract, Nat.min_self] at h_; omega))); clear c10; obtain rfl := Option.some.inj H; have p5 : 0 ≤ (0 : Int) := (by omega); have q5 : 0 < a0.size := (by have : (0 : Int) < (a0.size : Int) := od; omega); have hx5 : ∀ h : 0 < a0.size, ((a0[0]'h).toNat : Int) = bt a0 0 := bt_at a0 0; clear p5; have qi5 : (0 < (a0.size : Int)) = True := eq_true (od); replace q5 := eq_true q5; go_enter Tryz.func29, Tryz.ntmps29; go_wp2_with (first | ((with_reducible refine gate_callee (f := 28) rfl ?_); refine goesL_ (some 16) rfl rfl Tryz.func28 (by kernel_rfl) rfl #[.string (a0.extract 1 a0.size)] rfl am ?_; (with_reducible refine (targumref4_Digits.calls k (a0.extract 1 a0.size) true _ A8.out).mono ?_); rintro e w' ⟨rfl, ⟨nd, rfl⟩⟩; refine ⟨_, rfl, ?_⟩; have p11 : 0 ≤ (0 : Int) := (by omega); have q11 : 0 < (a0.extract 1 a0.size).size := (by have : (0 : Int) < ((a0.extract 1 a0.size).size : Int) := od; omega); have hx11 : ∀ h : 0 < (a0.extract 1 a0.size).size, (((a0.extract 1 a0.size)[0]'h).toNat : Int) = bt (a0.extract 1 a0.size) 0 := bt_at (a0.extract 1 a0.size) 0; clear p11; have qi11 : (0 < ((a0.extract 1 a0.size).size : Int)) = True := eq_true (od); replace q11 := eq_true q11; (try have qe11 : (0 < a0.size - 1) = True := eq_true (by have h_ := of_eq_true qi11; simp only [ByteArray.size_extract, Nat.min_self] at h_; omega)))); go_ret; exact ⟨rq, by repeat (first | exact Drawn0.refl _ | apply Drawn0.step)⟩
       ·rw [if_neg c10] at H
        exact absurd H (by simp)
      ·replace c9 := Bool.eq_false_iff.mpr c9
       subst c9; have H1 : (some false) = some r := by rw [if_neg (show ¬ (false = true) by decide)] at H; exact H
       clear H; have H := H1; clear H1; obtain rfl := Option.some.inj H; have p5 : 0 ≤ (0 : Int) := (by omega); have q5 : 0 < a0.size := (by have : (0 : Int) < (a0.size : Int) := od; omega); have hx5 : ∀ h : 0 < a0.size, ((a0[0]'h).toNat : Int) = bt a0 0 := bt_at a0 0; clear p5; have qi5 : (0 < (a0.size : Int)) = True := eq_true (od); replace q5 := eq_true q5; go_enter Tryz.func29, Tryz.ntmps29; go_wp2_with (first | ((with_reducible refine gate_callee (f := 28) rfl ?_); refine goesL_ (some 16) rfl rfl Tryz.func28 (by kernel_rfl) rfl #[.string (a0.extract 1 a0.size)] rfl am ?_; (with_reducible refine (targumref4_Digits.calls k (a0.extract 1 a0.size) false _ A8.out).mono ?_); rintro e w' ⟨rfl, ⟨nd, rfl⟩⟩; refine ⟨_, rfl, ?_⟩)); go_ret; exact ⟨rq, by repeat (first | exact Drawn0.refl _ | apply Drawn0.step)⟩
     ·rw [if_neg c7] at H
      exact absurd H (by simp)
    ·rw [if_neg c6] at H
     have c6b0 : ((bt a0 0) == 45) = false := beq_eq_false_iff_ne.mpr c6; have c6b1 : ((bt a0 0) != 45) = true := bne_iff_ne.mpr c6; replace H := Option.bind_eq_some_iff.mp H; obtain ⟨t224, A120, H⟩ := H; replace H : (if t224 = true then (some ((bt a0 0) != 48)) else (some false)) = some r := H; have A12 := AM A120; clear A120; by_cases c13 : t224 = true
     ·subst c13
      have H1 : (some ((bt a0 0) != 48)) = some r := by rw [if_pos rfl] at H; exact H
      clear H; have H := H1; clear H1; obtain rfl := Option.some.inj H; have p5 : 0 ≤ (0 : Int) := (by omega); have q5 : 0 < a0.size := (by have : (0 : Int) < (a0.size : Int) := od; omega); have hx5 : ∀ h : 0 < a0.size, ((a0[0]'h).toNat : Int) = bt a0 0 := bt_at a0 0; clear p5; have qi5 : (0 < (a0.size : Int)) = True := eq_true (od); replace q5 := eq_true q5; go_enter Tryz.func29, Tryz.ntmps29; go_wp2_with (first | ((with_reducible refine gate_callee (f := 28) rfl ?_); refine goesL_ (some 16) rfl rfl Tryz.func28 (by kernel_rfl) rfl #[.string a0] rfl am ?_; (with_reducible refine (targumref4_Digits.calls k a0 true _ A12.out).mono ?_); rintro e w' ⟨rfl, ⟨nd, rfl⟩⟩; refine ⟨_, rfl, ?_⟩; have p14 : 0 ≤ (0 : Int) := (by omega); have q14 : 0 < a0.size := (by have : (0 : Int) < (a0.size : Int) := od; omega); have hx14 : ∀ h : 0 < a0.size, ((a0[0]'h).toNat : Int) = bt a0 0 := bt_at a0 0; clear p14; have qi14 : (0 < (a0.size : Int)) = True := eq_true (od); replace q14 := eq_true q14)); go_ret; exact ⟨rq, by repeat (first | exact Drawn0.refl _ | apply Drawn0.step)⟩
     ·replace c13 := Bool.eq_false_iff.mpr c13
      subst c13; have H1 : (some false) = some r := by rw [if_neg (show ¬ (false = true) by decide)] at H; exact H
      clear H; have H := H1; clear H1; obtain rfl := Option.some.inj H; have p5 : 0 ≤ (0 : Int) := (by omega); have q5 : 0 < a0.size := (by have : (0 : Int) < (a0.size : Int) := od; omega); have hx5 : ∀ h : 0 < a0.size, ((a0[0]'h).toNat : Int) = bt a0 0 := bt_at a0 0; clear p5; have qi5 : (0 < (a0.size : Int)) = True := eq_true (od); replace q5 := eq_true q5; go_enter Tryz.func29, Tryz.ntmps29; go_wp2_with (first | ((with_reducible refine gate_callee (f := 28) rfl ?_); refine goesL_ (some 16) rfl rfl Tryz.func28 (by kernel_rfl) rfl #[.string a0] rfl am ?_; (with_reducible refine (targumref4_Digits.calls k a0 false _ A12.out).mono ?_); rintro e w' ⟨rfl, ⟨nd, rfl⟩⟩; refine ⟨_, rfl, ?_⟩)); go_ret; exact ⟨rq, by repeat (first | exact Drawn0.refl _ | apply Drawn0.step)⟩
   ·rw [if_neg c4] at H
    exact absurd H (by simp)
  ·rw [if_neg c3] at H
   have c3b0 : decide (0 < (a0.size : Int)) = false := decide_eq_false c3
   have c3b1 : decide (0 < a0.size) = false := decide_eq_false (by omega)
   clear c3
   replace H := Option.bind_eq_some_iff.mp H
   obtain ⟨t225, A150, H⟩ := H
   replace H : (if t225 = true then (if 0 < (a0.size : Int) then (some ((bt a0 0) != 48)) else (none)) else (some false)) = some r := H
   have A15 := AM A150
   clear A150
   by_cases c16 : t225 = true
   ·subst c16
    have H1 : (if 0 < (a0.size : Int) then (some ((bt a0 0) != 48)) else (none)) = some r := by rw [if_pos rfl] at H; exact H
    clear H; have H := H1; clear H1; by_cases c17 : 0 < (a0.size : Int)
    ·rw [if_pos c17] at H
     have c17b0 : decide (0 < (a0.size : Int)) = true := decide_eq_true c17; have c17b1 : decide (0 < a0.size) = true := decide_eq_true (by omega); clear c17; obtain rfl := Option.some.inj H; go_enter Tryz.func29, Tryz.ntmps29; go_wp2_with (first | ((with_reducible refine gate_callee (f := 28) rfl ?_); refine goesL_ (some 16) rfl rfl Tryz.func28 (by kernel_rfl) rfl #[.string a0] rfl am ?_; (with_reducible refine (targumref4_Digits.calls k a0 true _ A15.out).mono ?_); rintro e w' ⟨rfl, ⟨nd, rfl⟩⟩; refine ⟨_, rfl, ?_⟩; have p18 : 0 ≤ (0 : Int) := (by omega); have q18 : 0 < a0.size := (by have : (0 : Int) < (a0.size : Int) := od; omega); have hx18 : ∀ h : 0 < a0.size, ((a0[0]'h).toNat : Int) = bt a0 0 := bt_at a0 0; clear p18; have qi18 : (0 < (a0.size : Int)) = True := eq_true (od); replace q18 := eq_true q18)); go_ret; exact ⟨rq, by repeat (first | exact Drawn0.refl _ | apply Drawn0.step)⟩
    ·rw [if_neg c17] at H
     exact absurd H (by simp)
   ·replace c16 := Bool.eq_false_iff.mpr c16
    subst c16; have H1 : (some false) = some r := by rw [if_neg (show ¬ (false = true) by decide)] at H; exact H
    clear H; have H := H1; clear H1; obtain rfl := Option.some.inj H; go_enter Tryz.func29, Tryz.ntmps29; go_wp2_with (first | ((with_reducible refine gate_callee (f := 28) rfl ?_); refine goesL_ (some 16) rfl rfl Tryz.func28 (by kernel_rfl) rfl #[.string a0] rfl am ?_; (with_reducible refine (targumref4_Digits.calls k a0 false _ A15.out).mono ?_); rintro e w' ⟨rfl, ⟨nd, rfl⟩⟩; refine ⟨_, rfl, ?_⟩)); go_ret; exact ⟨rq, by repeat (first | exact Drawn0.refl _ | apply Drawn0.step)⟩

/-! ### targumref4_Norm: function 13 -/
def targumref4_Norm.l0 : Nat → Bool → ByteArray → Int → Option (ByteArray)
 | 0, _, _, _ => none
 | k + 1, x0, x1, x5 => if x5 < (wrap64 ((x1.size : Int) - 1)) then (if 0 ≤ x5 then (if x5 < (x1.size : Int) then (if (bt x1 x5) = 48 then (targumref4_Norm.l0 k x0 x1 (wrap64 (x5 + 1))) else (if x5 ≤ (x1.size : Int) then (if x0 = true then (if (x1.extract (x5 : Int).toNat x1.size).toList = ([48] : List UInt8) then (some (x1.extract (x5 : Int).toNat x1.size)) else (if 1 + (x1.extract (x5 : Int).toNat x1.size).size ≤ 9223372036854775807 then (some ((⟨#[45]⟩ : ByteArray) ++ (x1.extract (x5 : Int).toNat x1.size))) else (none))) else (some (x1.extract (x5 : Int).toNat x1.size))) else (none))) else (none)) else (none)) else (if 0 ≤ x5 then (if x5 ≤ (x1.size : Int) then (if x0 = true then (if (x1.extract (x5 : Int).toNat x1.size).toList = ([48] : List UInt8) then (some (x1.extract (x5 : Int).toNat x1.size)) else (if 1 + (x1.extract (x5 : Int).toNat x1.size).size ≤ 9223372036854775807 then (some ((⟨#[45]⟩ : ByteArray) ++ (x1.extract (x5 : Int).toNat x1.size))) else (none))) else (some (x1.extract (x5 : Int).toNat x1.size))) else (none)) else (none))
def targumref4_Norm.f (k : Nat) (a0 : Bool) (a1 : ByteArray) : Option (ByteArray) := (targumref4_Digits.f k a1).bind fun t226 => (if t226 = true then (targumref4_Norm.l0 k a0 a1 0) else (some (⟨#[]⟩ : ByteArray)))
theorem targumref4_Norm.mono_l : ∀ k, (∀ y0 y1 y2, LeO (targumref4_Norm.l0 k y0 y1 y2) (targumref4_Norm.l0 (k + 1) y0 y1 y2))
 | 0 => fun _ _ _ r h => by simp [targumref4_Norm.l0] at h
 | k + 1 => by
  have ih0 := targumref4_Norm.mono_l k
  ·intro y0 y1 y2
   unfold targumref4_Norm.l0
   repeat' first | (with_reducible exact ih0 _ _ _) | (with_reducible exact targumref4_Digits.mono _ _) | (with_reducible exact LeO.refl _) | (with_reducible exact LeO.none _) | (with_reducible refine LeO.ite ?_ ?_) | (with_reducible refine LeO.bind ?_ (fun _ => ?_)) | exact ih0 _ _ _ | exact targumref4_Digits.mono _ _ | exact LeO.none _ | refine LeO.ite ?_ ?_ | refine LeO.bind ?_ (fun _ => ?_)
theorem targumref4_Norm.mono : ∀ a0 a1 k, LeO (targumref4_Norm.f k a0 a1) (targumref4_Norm.f (k + 1) a0 a1) := by
 intro a0 a1 k
 have ih0 := targumref4_Norm.mono_l k
 unfold targumref4_Norm.f
 repeat' first | (with_reducible exact ih0 _ _ _) | (with_reducible exact targumref4_Digits.mono _ _) | (with_reducible exact LeO.refl _) | (with_reducible exact LeO.none _) | (with_reducible refine LeO.ite ?_ ?_) | (with_reducible refine LeO.bind ?_ (fun _ => ?_)) | exact ih0 _ _ _ | exact targumref4_Digits.mono _ _ | exact LeO.none _ | refine LeO.ite ?_ ?_ | refine LeO.bind ?_ (fun _ => ?_)
set_option maxHeartbeats 40000000 in
set_option maxRecDepth 100000 in
theorem targumref4_Norm.calls (k : Nat) (a0 : Bool) (a1 : ByteArray) (r : ByteArray) (w : World) (h : targumref4_Norm.f k a0 a1 = some r) :
  Calls Tryz.prog 13 #[.bool a0, .string a1] w fun e w' => e = .returned (.string r) ∧ Drawn0 w w' := by
 have H : ((targumref4_Digits.f k a1).bind fun t226 => (if t226 = true then (targumref4_Norm.l0 k a0 a1 0) else (some (⟨#[]⟩ : ByteArray)))) = some r := h
 clear h
 replace H := Option.bind_eq_some_iff.mp H
 obtain ⟨t226, A30, H⟩ := H
 replace H : (if t226 = true then (targumref4_Norm.l0 k a0 a1 0) else (some (⟨#[]⟩ : ByteArray))) = some r := H
 have A3 := AM A30
 clear A30
 by_cases c4 : t226 = true
 ·subst c4
  have H1 : (targumref4_Norm.l0 k a0 a1 0) = some r := by rw [if_pos rfl] at H; exact H
  clear H
  have H := H1
  clear H1
  have H' := AM H
  clear H
  go_enter Tryz.func13, Tryz.ntmps13
  go_wp2_with (first | ((with_reducible refine gate_callee (f := 28) rfl ?_); refine goesL_ (some 8) rfl rfl Tryz.func28 (by kernel_rfl) rfl #[.string a1] rfl am ?_; (with_reducible refine (targumref4_Digits.calls k a1 true _ A3.out).mono ?_); rintro e w' ⟨rfl, ⟨nd, rfl⟩⟩; refine ⟨_, rfl, ?_⟩))
  go_loopg [5] k (fun kq v5 w' => ∃ (x5_1 : Int), v5 = .int .i64 x5_1 ∧ Aside0 (targumref4_Norm.l0 kq a0 a1 x5_1 = some r) ∧ Aside0 (kq ≤ k) ∧ Drawn0 w w')
  case atStart => exact ⟨(0), rq, H', ⟨Nat.le_refl _⟩, by repeat (first | exact Drawn0.refl _ | apply Drawn0.step)⟩
  case round =>
   clear H'
   try clear c4
   obtain ⟨x5_1, rfl, HA, HK1, ⟨m1, rfl⟩⟩ := hrel
   cases gk with
   | zero => exact absurd HA.out (by simp [targumref4_Norm.l0])
   | succ k1 =>
    have H := HA.out; clear HA; simp only [targumref4_Norm.l0] at H; by_cases c5 : x5_1 < (wrap64 ((a1.size : Int) - 1))
    ·rw [if_pos c5] at H
     have c5b0 : decide (x5_1 < (wrap64 ((a1.size : Int) - 1))) = true := decide_eq_true c5; clear c5; by_cases c6 : 0 ≤ x5_1
     ·rw [if_pos c6] at H
      have c6b0 : decide (0 ≤ x5_1) = true := decide_eq_true c6; clear c6; by_cases c7 : x5_1 < (a1.size : Int)
      ·rw [if_pos c7] at H
       have c7b0 : decide (x5_1 < (a1.size : Int)) = true := decide_eq_true c7; clear c7; by_cases c9 : (bt a1 x5_1) = 48
       ·rw [if_pos c9] at H
        have c9b0 : ((bt a1 x5_1) == 48) = true := beq_iff_eq.mpr c9; have c9b1 : ((bt a1 x5_1) != 48) = false := bne_eq_false_iff_eq.mpr c9; clear c9; have H' := AM H; clear H; have p8 : 0 ≤ (x5_1 : Int) := od; have q8 : x5_1 < (a1.size : Int) := od; have hx8 := bt_at a1 x5_1; replace p8 := eq_true p8; replace q8 := eq_true q8; go_wp2; go_roundg k1
        case measure => have := HK1.out; omega
        case rel => exact ⟨(wrap64 (x5_1 + 1)), rq, H', ⟨by have := HK1.out; omega⟩, by repeat (first | exact Drawn0.refl _ | apply Drawn0.step)⟩
       ·rw [if_neg c9] at H
        have c9b0 : ((bt a1 x5_1) == 48) = false := beq_eq_false_iff_ne.mpr c9; have c9b1 : ((bt a1 x5_1) != 48) = true := bne_iff_ne.mpr c9; have c10b0 := eq_true (od : 0 ≤ x5_1); by_cases c11 : x5_1 ≤ (a1.size : Int)
        ·rw [if_pos c11] at H
         have c11b0 := eq_true c11; have c11b1 : decide (x5_1 ≤ (a1.size : Int)) = true := decide_eq_true c11; clear c11; by_cases c12 : a0 = true
         ·subst c12
          have H1 : (if (a1.extract (x5_1 : Int).toNat a1.size).toList = ([48] : List UInt8) then (some (a1.extract (x5_1 : Int).toNat a1.size)) else (if 1 + (a1.extract (x5_1 : Int).toNat a1.size).size ≤ 9223372036854775807 then (some ((⟨#[45]⟩ : ByteArray) ++ (a1.extract (x5_1 : Int).toNat a1.size))) else (none))) = some r := by rw [if_pos rfl] at H; exact H
          clear H; have H := H1; clear H1; by_cases c13 : (a1.extract (x5_1 : Int).toNat a1.size).toList = ([48] : List UInt8)
          ·rw [if_pos c13] at H
           have c13b0 : ((a1.extract (x5_1 : Int).toNat a1.size).toList == ([48] : List UInt8)) = true := beq_iff_eq.mpr c13; have c13b1 : ((a1.extract (x5_1 : Int).toNat a1.size).toList != ([48] : List UInt8)) = false := bne_eq_false_iff_eq.mpr c13; clear c13; obtain rfl := Option.some.inj H; have p8 : 0 ≤ (x5_1 : Int) := od; have q8 : x5_1 < (a1.size : Int) := od; have hx8 := bt_at a1 x5_1; replace p8 := eq_true p8; replace q8 := eq_true q8; go_wp2; go_ret; exact ⟨rq, by repeat (first | exact Drawn0.refl _ | apply Drawn0.step)⟩
          ·rw [if_neg c13] at H
           have c13b0 : ((a1.extract (x5_1 : Int).toNat a1.size).toList == ([48] : List UInt8)) = false := beq_eq_false_iff_ne.mpr c13; have c13b1 : ((a1.extract (x5_1 : Int).toNat a1.size).toList != ([48] : List UInt8)) = true := bne_iff_ne.mpr c13; by_cases c14 : 1 + (a1.extract (x5_1 : Int).toNat a1.size).size ≤ 9223372036854775807
           ·rw [if_pos c14] at H
            have c14b0 := eq_true c14; have c14b1 : decide (1 + (a1.extract (x5_1 : Int).toNat a1.size).size ≤ 9223372036854775807) = true := decide_eq_true c14; try have c14b2 : (9223372036854775807 < 1 + (a1.extract (x5_1 : Int).toNat a1.size).size) = False := eq_false (Nat.not_lt.2 c14)
            try have c14b7 : (9223372036854775807 < 1 + (a1.size - (x5_1 : Int).toNat)) = False := eq_false (Nat.not_lt.2 (by have z_ := c14; have h0_ := of_decide_eq_true c11b1; simp only [ByteArray.size_append, ByteArray.size_extract, Nat.min_self] at z_; omega))
            try have c14b3 : (9223372036854775807 < 1 + (a1.size - (x5_1 : Int).toNat)) = False := eq_false (Nat.not_lt.2 (by have z_ := c14; simp only [ByteArray.size_append, ByteArray.size_extract, Nat.min_self] at z_; exact z_))
            obtain rfl := Option.some.inj H; have p8 : 0 ≤ (x5_1 : Int) := od; have q8 : x5_1 < (a1.size : Int) := od; have hx8 := bt_at a1 x5_1; replace p8 := eq_true p8; replace q8 := eq_true q8; go_wp2; go_ret; exact ⟨rq, by repeat (first | exact Drawn0.refl _ | apply Drawn0.step)⟩
           ·rw [if_neg c14] at H
            exact absurd H (by simp)
         ·replace c12 := Bool.eq_false_iff.mpr c12
          subst c12; have H1 : (some (a1.extract (x5_1 : Int).toNat a1.size)) = some r := by rw [if_neg (show ¬ (false = true) by decide)] at H; exact H
          clear H; have H := H1; clear H1; obtain rfl := Option.some.inj H; have p8 : 0 ≤ (x5_1 : Int) := od; have q8 : x5_1 < (a1.size : Int) := od; have hx8 := bt_at a1 x5_1; replace p8 := eq_true p8; replace q8 := eq_true q8; go_wp2; go_ret; exact ⟨rq, by repeat (first | exact Drawn0.refl _ | apply Drawn0.step)⟩
        ·rw [if_neg c11] at H
         exact absurd H (by simp)
      ·rw [if_neg c7] at H
       exact absurd H (by simp)
     ·rw [if_neg c6] at H
      exact absurd H (by simp)
    ·rw [if_neg c5] at H
     have c5b0 : decide (x5_1 < (wrap64 ((a1.size : Int) - 1))) = false := decide_eq_false c5; clear c5; by_cases c15 : 0 ≤ x5_1
     ·rw [if_pos c15] at H
      have c15b0 := eq_true c15; have c15b1 : decide (0 ≤ x5_1) = true := decide_eq_true c15; clear c15; by_cases c16 : x5_1 ≤ (a1.size : Int)
      ·rw [if_pos c16] at H
       have c16b0 := eq_true c16; have c16b1 : decide (x5_1 ≤ (a1.size : Int)) = true := decide_eq_true c16; clear c16; by_cases c17 : a0 = true
       ·subst c17
        have H1 : (if (a1.extract (x5_1 : Int).toNat a1.size).toList = ([48] : List UInt8) then (some (a1.extract (x5_1 : Int).toNat a1.size)) else (if 1 + (a1.extract (x5_1 : Int).toNat a1.size).size ≤ 9223372036854775807 then (some ((⟨#[45]⟩ : ByteArray) ++ (a1.extract (x5_1 : Int).toNat a1.size))) else (none))) = some r := by rw [if_pos rfl] at H; exact H
        clear H; have H := H1; clear H1; by_cases c18 : (a1.extract (x5_1 : Int).toNat a1.size).toList = ([48] : List UInt8)
        ·rw [if_pos c18] at H
         have c18b0 : ((a1.extract (x5_1 : Int).toNat a1.size).toList == ([48] : List UInt8)) = true := beq_iff_eq.mpr c18; have c18b1 : ((a1.extract (x5_1 : Int).toNat a1.size).toList != ([48] : List UInt8)) = false := bne_eq_false_iff_eq.mpr c18; clear c18; obtain rfl := Option.some.inj H; go_wp2; go_ret; exact ⟨rq, by repeat (first | exact Drawn0.refl _ | apply Drawn0.step)⟩
        ·rw [if_neg c18] at H
         have c18b0 : ((a1.extract (x5_1 : Int).toNat a1.size).toList == ([48] : List UInt8)) = false := beq_eq_false_iff_ne.mpr c18; have c18b1 : ((a1.extract (x5_1 : Int).toNat a1.size).toList != ([48] : List UInt8)) = true := bne_iff_ne.mpr c18; by_cases c19 : 1 + (a1.extract (x5_1 : Int).toNat a1.size).size ≤ 9223372036854775807
         ·rw [if_pos c19] at H
          have c19b0 := eq_true c19; have c19b1 : decide (1 + (a1.extract (x5_1 : Int).toNat a1.size).size ≤ 9223372036854775807) = true := decide_eq_true c19; try have c19b2 : (9223372036854775807 < 1 + (a1.extract (x5_1 : Int).toNat a1.size).size) = False := eq_false (Nat.not_lt.2 c19)
          try have c19b7 : (9223372036854775807 < 1 + (a1.size - (x5_1 : Int).toNat)) = False := eq_false (Nat.not_lt.2 (by have z_ := c19; have h0_ := of_decide_eq_true c15b1; have h1_ := of_decide_eq_true c16b1; simp only [ByteArray.size_append, ByteArray.size_extract, Nat.min_self] at z_; omega))
          try have c19b3 : (9223372036854775807 < 1 + (a1.size - (x5_1 : Int).toNat)) = False := eq_false (Nat.not_lt.2 (by have z_ := c19; simp only [ByteArray.size_append, ByteArray.size_extract, Nat.min_self] at z_; exact z_))
          obtain rfl := Option.some.inj H; go_wp2; go_ret; exact ⟨rq, by repeat (first | exact Drawn0.refl _ | apply Drawn0.step)⟩
         ·rw [if_neg c19] at H
          exact absurd H (by simp)
       ·replace c17 := Bool.eq_false_iff.mpr c17
        subst c17; have H1 : (some (a1.extract (x5_1 : Int).toNat a1.size)) = some r := by rw [if_neg (show ¬ (false = true) by decide)] at H; exact H
        clear H; have H := H1; clear H1; obtain rfl := Option.some.inj H; go_wp2; go_ret; exact ⟨rq, by repeat (first | exact Drawn0.refl _ | apply Drawn0.step)⟩
      ·rw [if_neg c16] at H
       exact absurd H (by simp)
     ·rw [if_neg c15] at H
      exact absurd H (by simp)
 ·replace c4 := Bool.eq_false_iff.mpr c4
  subst c4
  have H1 : (some (⟨#[]⟩ : ByteArray)) = some r := by rw [if_neg (show ¬ (false = true) by decide)] at H; exact H
  clear H
  have H := H1
  clear H1
  obtain rfl := Option.some.inj H
  go_enter Tryz.func13, Tryz.ntmps13
  go_wp2_with (first | ((with_reducible refine gate_callee (f := 28) rfl ?_); refine goesL_ (some 8) rfl rfl Tryz.func28 (by kernel_rfl) rfl #[.string a1] rfl am ?_; (with_reducible refine (targumref4_Digits.calls k a1 false _ A3.out).mono ?_); rintro e w' ⟨rfl, ⟨nd, rfl⟩⟩; refine ⟨_, rfl, ?_⟩))
  go_ret
  exact ⟨rq, by repeat (first | exact Drawn0.refl _ | apply Drawn0.step)⟩

/-! ### targumref4_Text: function 15 -/
def targumref4_Text.l0 : Nat → Int → ByteArray → Option (ByteArray)
 | 0, _, _ => none
 | k + 1, x0, x3 => (some (([(wrap64 (48 + (Int.tmod x0 10))) % 256] : List Int) : List Int)).bind fun y227 => (if (strOfNums y227).size + x3.size ≤ 9223372036854775807 then (if (wrap64 (Int.tdiv x0 10)) = 0 then (some ((strOfNums y227) ++ x3)) else (targumref4_Text.l0 k (wrap64 (Int.tdiv x0 10)) ((strOfNums y227) ++ x3))) else (none))
def targumref4_Text.f (k : Nat) (a0 : Int) : Option (ByteArray) := targumref4_Text.l0 k a0 (⟨#[]⟩ : ByteArray)
theorem targumref4_Text.mono_l : ∀ k, (∀ y0 y1, LeO (targumref4_Text.l0 k y0 y1) (targumref4_Text.l0 (k + 1) y0 y1))
 | 0 => fun _ _ r h => by simp [targumref4_Text.l0] at h
 | k + 1 => by
  have ih0 := targumref4_Text.mono_l k
  ·intro y0 y1
   unfold targumref4_Text.l0
   repeat' first | (with_reducible exact ih0 _ _) | (with_reducible exact LeO.refl _) | (with_reducible exact LeO.none _) | (with_reducible refine LeO.ite ?_ ?_) | (with_reducible refine LeO.bind ?_ (fun _ => ?_)) | exact ih0 _ _ | exact LeO.none _ | refine LeO.ite ?_ ?_ | refine LeO.bind ?_ (fun _ => ?_)
theorem targumref4_Text.mono : ∀ a0 k, LeO (targumref4_Text.f k a0) (targumref4_Text.f (k + 1) a0) := by
 intro a0 k
 have ih0 := targumref4_Text.mono_l k
 unfold targumref4_Text.f
 repeat' first | (with_reducible exact ih0 _ _) | (with_reducible exact LeO.refl _) | (with_reducible exact LeO.none _) | (with_reducible refine LeO.ite ?_ ?_) | (with_reducible refine LeO.bind ?_ (fun _ => ?_)) | exact ih0 _ _ | exact LeO.none _ | refine LeO.ite ?_ ?_ | refine LeO.bind ?_ (fun _ => ?_)
set_option maxHeartbeats 40000000 in
set_option maxRecDepth 100000 in
theorem targumref4_Text.calls (k : Nat) (a0 : Int) (r : ByteArray) (w : World) (h : targumref4_Text.f k a0 = some r) :
  Calls Tryz.prog 15 #[.int .i64 a0] w fun e w' => e = .returned (.string r) ∧ Below w.heap.size w w' := by
 have HB := AM (Below.refl w.heap.size w)
 have H : (targumref4_Text.l0 k a0 (⟨#[]⟩ : ByteArray)) = some r := h
 clear h
 have H' := AM H
 clear H
 go_enter Tryz.func15, Tryz.ntmps15
 go_wp2
 go_loopg [0, 3] k (fun kq v0 v3 w' => ∃ (x0_1 : Int) (x3_1 : ByteArray), v0 = .int .i64 x0_1 ∧ v3 = .string x3_1 ∧ Aside0 (targumref4_Text.l0 kq x0_1 x3_1 = some r) ∧ Aside0 (kq ≤ k) ∧ Aside0 (Below w.heap.size w w'))
 case atStart => exact ⟨(a0), ((⟨#[]⟩ : ByteArray)), rq, rq, H', ⟨Nat.le_refl _⟩, ⟨bl⟩⟩
 case round =>
  clear H'
  obtain ⟨x0_1, x3_1, rfl, rfl, HA, HK1, HB⟩ := hrel
  cases gk with
  | zero => exact absurd HA.out (by simp [targumref4_Text.l0])
  | succ k1 =>
   have H := HA.out
   clear HA
   simp only [targumref4_Text.l0] at H
   obtain ⟨y227, hy227⟩ : ∃ y_ : List Int, y_ = (([(wrap64 (48 + (Int.tmod x0_1 10))) % 256] : List Int)) := ⟨_, rfl⟩
   replace H : (if (strOfNums y227).size + x3_1.size ≤ 9223372036854775807 then (if (wrap64 (Int.tdiv x0_1 10)) = 0 then (some ((strOfNums y227) ++ x3_1)) else (targumref4_Text.l0 k1 (wrap64 (Int.tdiv x0_1 10)) ((strOfNums y227) ++ x3_1))) else (none)) = some r := by first | (rw [hy227]; with_reducible exact H) | (have H2_ := (Option.bind_some _ _).symm.trans H; rw [hy227]; with_reducible exact H2_) | (have H2_ := (Option.bind_some _ _).symm.trans H; with_reducible exact H2_) | with_reducible exact H | (rw [hy227]; exact H) | exact H
   have Ny227 := AM hy227
   clear hy227
   by_cases c2 : (strOfNums y227).size + x3_1.size ≤ 9223372036854775807
   ·rw [if_pos c2] at H
    have c2b0 := eq_true c2; have c2b1 : decide ((strOfNums y227).size + x3_1.size ≤ 9223372036854775807) = true := decide_eq_true c2; try have c2b2 : (9223372036854775807 < (strOfNums y227).size + x3_1.size) = False := eq_false (Nat.not_lt.2 c2)
    by_cases c3 : (wrap64 (Int.tdiv x0_1 10)) = 0
    ·rw [if_pos c3] at H
     have c3b0 : ((wrap64 (Int.tdiv x0_1 10)) == 0) = true := beq_iff_eq.mpr c3; have c3b1 : ((wrap64 (Int.tdiv x0_1 10)) != 0) = false := bne_eq_false_iff_eq.mpr c3; clear c3; obtain rfl := Option.some.inj H; go_wp2_with (first | ((with_reducible refine gate_dst (N := 8) rfl ?_); refine Kd.R_lit (Kd.int .u8) _ 5 ?hg (N := 8) ?hd (xs := ([(wrap64 (48 + (Int.tmod x0_1 10))) % 256] : List Int)) (inner := [.int .u8 ((wrap64 (48 + (Int.tmod x0_1 10))) % 256)]) (ok := fun _ => True) (okp := fun _ => True) ?hr ?hp (fun _ hk => hk) trivial (Below.refl _ _) (Nat.le_refl _) (by simp) ?_; (case hd => rfl); (case hg => rfl); (case hr => first | (go_simp; done) | (go_simp; rfl)); (case hp => exact (Reps.one (show Kd.M (Kd.int .u8) _ _ _ ((wrap64 (48 + (Int.tmod x0_1 10))) % 256) [.int .u8 ((wrap64 (48 + (Int.tmod x0_1 10))) % 256)] from rfl) (Reps.none _ _))); intro v228 w4 ho5 hb hg_ hnew_; clear hg_ hnew_; (first | rw [← Ny227.out] at ho5 | (simp only [Int.reduceToNat] at ho5; rw [← Ny227.out] at ho5)); have HO229 := AM (Kd.R_lower ho5 (below_size bl)); replace HB := AM (below_step bl hb); clear hb ho5; have hcv6 := own_string (P := Tryz.prog) Tryz.underlying22 Tryz.underlying5 Tryz.underlying9 (Kd.own_of_R HO229.out)))
     go_ret
     exact ⟨ew, bl⟩
    ·rw [if_neg c3] at H
     have c3b0 : ((wrap64 (Int.tdiv x0_1 10)) == 0) = false := beq_eq_false_iff_ne.mpr c3; have c3b1 : ((wrap64 (Int.tdiv x0_1 10)) != 0) = true := bne_iff_ne.mpr c3; have H' := AM H; clear H; go_wp2_with (first | ((with_reducible refine gate_dst (N := 8) rfl ?_); refine Kd.R_lit (Kd.int .u8) _ 5 ?hg (N := 8) ?hd (xs := ([(wrap64 (48 + (Int.tmod x0_1 10))) % 256] : List Int)) (inner := [.int .u8 ((wrap64 (48 + (Int.tmod x0_1 10))) % 256)]) (ok := fun _ => True) (okp := fun _ => True) ?hr ?hp (fun _ hk => hk) trivial (Below.refl _ _) (Nat.le_refl _) (by simp) ?_; (case hd => rfl); (case hg => rfl); (case hr => first | (go_simp; done) | (go_simp; rfl)); (case hp => exact (Reps.one (show Kd.M (Kd.int .u8) _ _ _ ((wrap64 (48 + (Int.tmod x0_1 10))) % 256) [.int .u8 ((wrap64 (48 + (Int.tmod x0_1 10))) % 256)] from rfl) (Reps.none _ _))); intro v228 w7 ho8 hb hg_ hnew_; clear hg_ hnew_; (first | rw [← Ny227.out] at ho8 | (simp only [Int.reduceToNat] at ho8; rw [← Ny227.out] at ho8)); have HO229 := AM (Kd.R_lower ho8 (below_size bl)); replace HB := AM (below_step bl hb); clear hb ho8; have hcv9 := own_string (P := Tryz.prog) Tryz.underlying22 Tryz.underlying5 Tryz.underlying9 (Kd.own_of_R HO229.out)))
     go_roundg k1
     case measure => have := HK1.out; omega
     case rel => exact ⟨(wrap64 (Int.tdiv x0_1 10)), ((strOfNums y227) ++ x3_1), rq, rq, H', ⟨by have := HK1.out; omega⟩, ⟨bl⟩⟩
   ·rw [if_neg c2] at H
    exact absurd H (by simp)

end Go.Proofs.YtkijneohhilboaaGreatDoor.PT
