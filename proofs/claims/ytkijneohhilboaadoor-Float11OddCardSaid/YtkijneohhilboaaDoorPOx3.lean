/- Written by this session's own program (xprint, made over the kit's print): Lean functions with the same answers as the Go functions, and the proofs of that. Not trusted: Lean checks it. -/
import Derived.Test.YtkijneohhilboaaDoorPOx0
import Derived.Test.YtkijneohhilboaaDoorPOx2
import Derived.Test.YtkijneohhilboaaDoorXW
import Derived.Test.YtkijneohhilboaaDoorXZ
namespace Go.Proofs.YtkijneohhilboaaDoor.PO
open Go.Proofs.YtkijneohhilboaaDoor.XZ
open Go.Proofs.YtkijneohhilboaaDoor.XW
open Go.RowKit Go.Proofs.YtkijneohhilboaaDoorW.PrintWords Go.Proofs.YtkijneohhilboaaDoorW.PrintLast Go.Proofs.YtkijneohhilboaaDoorW.PrintMore
attribute [local go_sem] max2_int min2_int max_two min_two max_three min_three max_four min_four   -- for this text's walks alone
set_option linter.unusedVariables false
set_option linter.unusedSimpArgs false

/-! ### float11_sixty: function 58 -/
def float11_sixty.j0 : Nat → ByteArray → Bool → Option (Int)
 | 0, _, _ => none
 | k + 1, x0, x3 => if x3 = true then (some 3) else (if (x0.size : Int) > 1 then (if 0 < (x0.size : Int) then (if (bt x0 0) = 58 then (if 1 < (x0.size : Int) then ((float11_digit.f (bt x0 1)).bind fun t107 => (if t107 = true then (some 2) else (some 0))) else (none)) else (some 0)) else (none)) else (some 0))
def float11_sixty.f (k : Nat) (a0 : ByteArray) : Option (Int) := if (a0.size : Int) > 2 then (if 0 < (a0.size : Int) then (if (bt a0 0) = 58 then (if 1 < (a0.size : Int) then (if (bt a0 1) ≥ 48 then (if (bt a0 1) ≤ 53 then (if 2 < (a0.size : Int) then ((float11_digit.f (bt a0 2)).bind fun t106 => (float11_sixty.j0 k a0 t106)) else (none)) else (float11_sixty.j0 k a0 false)) else (float11_sixty.j0 k a0 false)) else (none)) else (float11_sixty.j0 k a0 false)) else (none)) else (float11_sixty.j0 k a0 false)
theorem float11_sixty.mono_l : ∀ k, (∀ y0 y1, LeO (float11_sixty.j0 k y0 y1) (float11_sixty.j0 (k + 1) y0 y1))
 | 0 => fun _ _ r h => by simp [float11_sixty.j0] at h
 | k + 1 => by
  have ih0 := float11_sixty.mono_l k
  ·intro y0 y1
   unfold float11_sixty.j0
   repeat' first | (with_reducible exact ih0 _ _) | (with_reducible exact LeO.refl _) | (with_reducible exact LeO.none _) | (with_reducible refine LeO.ite ?_ ?_) | (with_reducible refine LeO.bind ?_ (fun _ => ?_)) | exact ih0 _ _ | exact LeO.none _ | refine LeO.ite ?_ ?_ | refine LeO.bind ?_ (fun _ => ?_)
theorem float11_sixty.mono : ∀ a0 k, LeO (float11_sixty.f k a0) (float11_sixty.f (k + 1) a0) := by
 intro a0 k
 have ih0 := float11_sixty.mono_l k
 unfold float11_sixty.f
 repeat' first | (with_reducible exact ih0 _ _) | (with_reducible exact LeO.refl _) | (with_reducible exact LeO.none _) | (with_reducible refine LeO.ite ?_ ?_) | (with_reducible refine LeO.bind ?_ (fun _ => ?_)) | exact ih0 _ _ | exact LeO.none _ | refine LeO.ite ?_ ?_ | refine LeO.bind ?_ (fun _ => ?_)
set_option maxHeartbeats 8000000 in
set_option maxRecDepth 100000 in
theorem float11_sixty.calls (k : Nat) (a0 : ByteArray) (r : Int) (w : World) (h : float11_sixty.f k a0 = some r) :
  Calls Tryd.prog 58 #[.string a0] w fun e w' => e = .returned (.int .i64 r) ∧ Drawn0 w w' := by
 have H : (if (a0.size : Int) > 2 then (if 0 < (a0.size : Int) then (if (bt a0 0) = 58 then (if 1 < (a0.size : Int) then (if (bt a0 1) ≥ 48 then (if (bt a0 1) ≤ 53 then (if 2 < (a0.size : Int) then ((float11_digit.f (bt a0 2)).bind fun t106 => (float11_sixty.j0 k a0 t106)) else (none)) else (float11_sixty.j0 k a0 false)) else (float11_sixty.j0 k a0 false)) else (none)) else (float11_sixty.j0 k a0 false)) else (none)) else (float11_sixty.j0 k a0 false)) = some r := h
 clear h
 have HC2 := AM H
 clear H
 go_enter Tryd.func58, Tryd.ntmps58
 go_upto_region 1 with (fail)
 go_cut [3] (fun v3 wc => ∃ (kq : Nat) (x3_1 : Bool), v3 = .bool x3_1 ∧ Aside0 (float11_sixty.j0 kq a0 x3_1 = some r) ∧ Aside0 (kq ≤ k) ∧ Drawn0 w wc)
 case first =>
  have H := HC2.out
  clear HC2
  by_cases c3 : (a0.size : Int) > 2
  ·rw [if_pos c3] at H
   have c3b0 : decide (2 < (a0.size : Int)) = true := decide_eq_true c3
   have c3b1 : decide (2 < a0.size) = true := decide_eq_true (by omega)
   clear c3
   (first | rw [c3b0] | (simp only [qi, qj]; rw [c3b0]) | skip)
   by_cases c4 : 0 < (a0.size : Int)
   ·rw [if_pos c4] at H
    have c4b0 : decide (0 < (a0.size : Int)) = true := decide_eq_true c4
    have c4b1 : decide (0 < a0.size) = true := decide_eq_true (by omega)
    clear c4
    by_cases c6 : (bt a0 0) = 58
    ·rw [if_pos c6] at H
     have c6b0 : ((bt a0 0) == 58) = true := beq_iff_eq.mpr c6
     have c6b1 : ((bt a0 0) != 58) = false := bne_eq_false_iff_eq.mpr c6
     clear c6
     by_cases c7 : 1 < (a0.size : Int)
     ·rw [if_pos c7] at H
      have c7b0 : decide (1 < (a0.size : Int)) = true := decide_eq_true c7
      have c7b1 : decide (1 < a0.size) = true := decide_eq_true (by omega)
      clear c7
      by_cases c9 : (bt a0 1) ≥ 48
      ·rw [if_pos c9] at H
       have c9b0 : decide (48 ≤ (bt a0 1)) = true := decide_eq_true c9
       clear c9
       by_cases c11 : (bt a0 1) ≤ 53
       ·rw [if_pos c11] at H
        have c11b0 : decide ((bt a0 1) ≤ 53) = true := decide_eq_true c11
        clear c11
        by_cases c12 : 2 < (a0.size : Int)
        ·rw [if_pos c12] at H
         have c12b0 : decide (2 < (a0.size : Int)) = true := decide_eq_true c12
         have c12b1 : decide (2 < a0.size) = true := decide_eq_true (by omega)
         clear c12
         replace H := Option.bind_eq_some_iff.mp H
         obtain ⟨t106, A140, H⟩ := H
         replace H : (float11_sixty.j0 k a0 t106) = some r := H
         have A14 := AM A140
         clear A140
         have H' := AM H
         clear H
         have p5 : 0 ≤ (0 : Int) := (by omega)
         have q5 : 0 < a0.size := (by have : (0 : Int) < (a0.size : Int) := od; omega)
         have hx5 : ∀ h : 0 < a0.size, ((a0[0]'h).toNat : Int) = bt a0 0 := bt_at a0 0
         clear p5
         have qi5 : (0 < (a0.size : Int)) = True := eq_true (od)
         replace q5 := eq_true q5
         have p8 : 0 ≤ (1 : Int) := (by omega)
         have q8 : 1 < a0.size := (by have : (1 : Int) < (a0.size : Int) := od; omega)
         have hx8 : ∀ h : 1 < a0.size, ((a0[1]'h).toNat : Int) = bt a0 1 := bt_at a0 1
         clear p8
         have qi8 : (1 < (a0.size : Int)) = True := eq_true (od)
         replace q8 := eq_true q8
         have p10 : 0 ≤ (1 : Int) := (by omega)
         have q10 : 1 < a0.size := (by have : (1 : Int) < (a0.size : Int) := od; omega)
         have hx10 : ∀ h : 1 < a0.size, ((a0[1]'h).toNat : Int) = bt a0 1 := bt_at a0 1
         clear p10
         have qi10 : (1 < (a0.size : Int)) = True := eq_true (od)
         replace q10 := eq_true q10
         have p13 : 0 ≤ (2 : Int) := (by omega)
         have q13 : 2 < a0.size := (by have : (2 : Int) < (a0.size : Int) := od; omega)
         have hx13 : ∀ h : 2 < a0.size, ((a0[2]'h).toNat : Int) = bt a0 2 := bt_at a0 2
         clear p13
         have qi13 : (2 < (a0.size : Int)) = True := eq_true (od)
         replace q13 := eq_true q13
         go_wp2_with (first | (go_at_call 56; (try (rename_i hK_; simp only [List.append] at hK_)); (with_reducible refine (float11_digit.calls (bt a0 2) t106 _ A14.out).mono ?_); rintro e w' ⟨rfl, ⟨nd, rfl⟩⟩))
         go_meet
         case rel => exact ⟨_, (t106), rq, H', ⟨by first | omega | exact Nat.le_refl _⟩, by repeat (first | exact Drawn0.refl _ | apply Drawn0.step)⟩
        ·rw [if_neg c12] at H
         exact absurd H (by simp)
       ·rw [if_neg c11] at H
        have c11b0 : decide ((bt a0 1) ≤ 53) = false := decide_eq_false c11
        clear c11
        have H' := AM H
        clear H
        have p5 : 0 ≤ (0 : Int) := (by omega)
        have q5 : 0 < a0.size := (by have : (0 : Int) < (a0.size : Int) := od; omega)
        have hx5 : ∀ h : 0 < a0.size, ((a0[0]'h).toNat : Int) = bt a0 0 := bt_at a0 0
        clear p5
        have qi5 : (0 < (a0.size : Int)) = True := eq_true (od)
        replace q5 := eq_true q5
        have p8 : 0 ≤ (1 : Int) := (by omega)
        have q8 : 1 < a0.size := (by have : (1 : Int) < (a0.size : Int) := od; omega)
        have hx8 : ∀ h : 1 < a0.size, ((a0[1]'h).toNat : Int) = bt a0 1 := bt_at a0 1
        clear p8
        have qi8 : (1 < (a0.size : Int)) = True := eq_true (od)
        replace q8 := eq_true q8
        have p10 : 0 ≤ (1 : Int) := (by omega)
        have q10 : 1 < a0.size := (by have : (1 : Int) < (a0.size : Int) := od; omega)
        have hx10 : ∀ h : 1 < a0.size, ((a0[1]'h).toNat : Int) = bt a0 1 := bt_at a0 1
        clear p10
        have qi10 : (1 < (a0.size : Int)) = True := eq_true (od)
        replace q10 := eq_true q10
        go_wp2
        go_meet
        case rel => exact ⟨_, (false), rq, H', ⟨by first | omega | exact Nat.le_refl _⟩, by repeat (first | exact Drawn0.refl _ | apply Drawn0.step)⟩
      ·rw [if_neg c9] at H
       have c9b0 : decide (48 ≤ (bt a0 1)) = false := decide_eq_false c9
       clear c9
       have H' := AM H
       clear H
       have p5 : 0 ≤ (0 : Int) := (by omega)
       have q5 : 0 < a0.size := (by have : (0 : Int) < (a0.size : Int) := od; omega)
       have hx5 : ∀ h : 0 < a0.size, ((a0[0]'h).toNat : Int) = bt a0 0 := bt_at a0 0
       clear p5
       have qi5 : (0 < (a0.size : Int)) = True := eq_true (od)
       replace q5 := eq_true q5
       have p8 : 0 ≤ (1 : Int) := (by omega)
       have q8 : 1 < a0.size := (by have : (1 : Int) < (a0.size : Int) := od; omega)
       have hx8 : ∀ h : 1 < a0.size, ((a0[1]'h).toNat : Int) = bt a0 1 := bt_at a0 1
       clear p8
       have qi8 : (1 < (a0.size : Int)) = True := eq_true (od)
       replace q8 := eq_true q8
       go_wp2
       go_meet
       case rel => exact ⟨_, (false), rq, H', ⟨by first | omega | exact Nat.le_refl _⟩, by repeat (first | exact Drawn0.refl _ | apply Drawn0.step)⟩
     ·rw [if_neg c7] at H
      exact absurd H (by simp)
    ·rw [if_neg c6] at H
     have c6b0 : ((bt a0 0) == 58) = false := beq_eq_false_iff_ne.mpr c6
     have c6b1 : ((bt a0 0) != 58) = true := bne_iff_ne.mpr c6
     have H' := AM H
     clear H
     have p5 : 0 ≤ (0 : Int) := (by omega)
     have q5 : 0 < a0.size := (by have : (0 : Int) < (a0.size : Int) := od; omega)
     have hx5 : ∀ h : 0 < a0.size, ((a0[0]'h).toNat : Int) = bt a0 0 := bt_at a0 0
     clear p5
     have qi5 : (0 < (a0.size : Int)) = True := eq_true (od)
     replace q5 := eq_true q5
     go_wp2
     go_meet
     case rel => exact ⟨_, (false), rq, H', ⟨by first | omega | exact Nat.le_refl _⟩, by repeat (first | exact Drawn0.refl _ | apply Drawn0.step)⟩
   ·rw [if_neg c4] at H
    exact absurd H (by simp)
  ·rw [if_neg c3] at H
   have c3b0 : decide (2 < (a0.size : Int)) = false := decide_eq_false c3
   have c3b1 : decide (2 < a0.size) = false := decide_eq_false (by omega)
   clear c3
   (first | rw [c3b0] | (simp only [qi, qj]; rw [c3b0]) | skip)
   have H' := AM H
   clear H
   go_wp2
   go_meet
   case rel => exact ⟨_, (false), rq, H', ⟨by first | omega | exact Nat.le_refl _⟩, by repeat (first | exact Drawn0.refl _ | apply Drawn0.step)⟩
 case rest =>
  clear HC2
  try clear c1; try clear p1; try clear q1; try clear hx1; try clear qi1; try clear p2; try clear c3; try clear c3b0; try clear c3b1; try clear c4; try clear c4b0; try clear c4b1; try clear c5; try clear p5; try clear q5; try clear hx5; try clear qi5; try clear c6; try clear c6b0; try clear c6b1; try clear c7; try clear c7b0; try clear c7b1; try clear p8; try clear q8; try clear hx8; try clear qi8; try clear c9; try clear c9b0; try clear p10; try clear q10; try clear hx10; try clear qi10; try clear c11; try clear c11b0; try clear c12; try clear c12b0; try clear c12b1; try clear p13; try clear q13; try clear hx13; try clear qi13; try clear p10; try clear p13; try clear p5; try clear p8; try clear q10; try clear q13; try clear q5; try clear q8
  obtain ⟨kq, x3_1, rfl, HA, HJ1, ⟨mc1, rfl⟩⟩ := hcut
  cases kq with
  | zero => exact absurd HA.out (by simp [float11_sixty.j0])
  | succ kj1 =>
   have H := HA.out
   clear HA
   simp only [float11_sixty.j0] at H
   by_cases c15 : x3_1 = true
   ·subst c15
    have H1 : (some 3) = some r := by rw [if_pos rfl] at H; exact H
    clear H
    have H := H1
    clear H1
    obtain rfl := Option.some.inj H
    go_wp2
    go_ret
    exact ⟨rq, by repeat (first | exact Drawn0.refl _ | apply Drawn0.step)⟩
   ·replace c15 := Bool.eq_false_iff.mpr c15
    subst c15
    have H1 : (if (a0.size : Int) > 1 then (if 0 < (a0.size : Int) then (if (bt a0 0) = 58 then (if 1 < (a0.size : Int) then ((float11_digit.f (bt a0 1)).bind fun t107 => (if t107 = true then (some 2) else (some 0))) else (none)) else (some 0)) else (none)) else (some 0)) = some r := by rw [if_neg (show ¬ (false = true) by decide)] at H; exact H
    clear H
    have H := H1
    clear H1
    by_cases c16 : (a0.size : Int) > 1
    ·rw [if_pos c16] at H
     have c16b0 : decide (1 < (a0.size : Int)) = true := decide_eq_true c16
     have c16b1 : decide (1 < a0.size) = true := decide_eq_true (by omega)
     clear c16
     by_cases c17 : 0 < (a0.size : Int)
     ·rw [if_pos c17] at H
      have c17b0 : decide (0 < (a0.size : Int)) = true := decide_eq_true c17
      have c17b1 : decide (0 < a0.size) = true := decide_eq_true (by omega)
      clear c17
      by_cases c19 : (bt a0 0) = 58
      ·rw [if_pos c19] at H
       have c19b0 : ((bt a0 0) == 58) = true := beq_iff_eq.mpr c19
       have c19b1 : ((bt a0 0) != 58) = false := bne_eq_false_iff_eq.mpr c19
       clear c19
       by_cases c20 : 1 < (a0.size : Int)
       ·rw [if_pos c20] at H
        have c20b0 : decide (1 < (a0.size : Int)) = true := decide_eq_true c20
        have c20b1 : decide (1 < a0.size) = true := decide_eq_true (by omega)
        clear c20
        replace H := Option.bind_eq_some_iff.mp H
        obtain ⟨t107, A220, H⟩ := H
        replace H : (if t107 = true then (some 2) else (some 0)) = some r := H
        have A22 := AM A220
        clear A220
        by_cases c23 : t107 = true
        ·subst c23
         have H1 : (some 2) = some r := by rw [if_pos rfl] at H; exact H
         clear H
         have H := H1
         clear H1
         obtain rfl := Option.some.inj H
         have p18 : 0 ≤ (0 : Int) := (by omega)
         have q18 : 0 < a0.size := (by have : (0 : Int) < (a0.size : Int) := od; omega)
         have hx18 : ∀ h : 0 < a0.size, ((a0[0]'h).toNat : Int) = bt a0 0 := bt_at a0 0
         clear p18
         have qi18 : (0 < (a0.size : Int)) = True := eq_true (od)
         replace q18 := eq_true q18
         have p21 : 0 ≤ (1 : Int) := (by omega)
         have q21 : 1 < a0.size := (by have : (1 : Int) < (a0.size : Int) := od; omega)
         have hx21 : ∀ h : 1 < a0.size, ((a0[1]'h).toNat : Int) = bt a0 1 := bt_at a0 1
         clear p21
         have qi21 : (1 < (a0.size : Int)) = True := eq_true (od)
         replace q21 := eq_true q21
         go_wp2_with (first | (go_at_call 56; (try (rename_i hK_; simp only [List.append] at hK_)); (with_reducible refine (float11_digit.calls (bt a0 1) true _ A22.out).mono ?_); rintro e w' ⟨rfl, ⟨nd, rfl⟩⟩))
         go_ret
         exact ⟨rq, by repeat (first | exact Drawn0.refl _ | apply Drawn0.step)⟩
        ·replace c23 := Bool.eq_false_iff.mpr c23
         subst c23
         have H1 : (some 0) = some r := by rw [if_neg (show ¬ (false = true) by decide)] at H; exact H
         clear H
         have H := H1
         clear H1
         obtain rfl := Option.some.inj H
         have p18 : 0 ≤ (0 : Int) := (by omega)
         have q18 : 0 < a0.size := (by have : (0 : Int) < (a0.size : Int) := od; omega)
         have hx18 : ∀ h : 0 < a0.size, ((a0[0]'h).toNat : Int) = bt a0 0 := bt_at a0 0
         clear p18
         have qi18 : (0 < (a0.size : Int)) = True := eq_true (od)
         replace q18 := eq_true q18
         have p21 : 0 ≤ (1 : Int) := (by omega)
         have q21 : 1 < a0.size := (by have : (1 : Int) < (a0.size : Int) := od; omega)
         have hx21 : ∀ h : 1 < a0.size, ((a0[1]'h).toNat : Int) = bt a0 1 := bt_at a0 1
         clear p21
         have qi21 : (1 < (a0.size : Int)) = True := eq_true (od)
         replace q21 := eq_true q21
         go_wp2_with (first | (go_at_call 56; (try (rename_i hK_; simp only [List.append] at hK_)); (with_reducible refine (float11_digit.calls (bt a0 1) false _ A22.out).mono ?_); rintro e w' ⟨rfl, ⟨nd, rfl⟩⟩))
         go_ret
         exact ⟨rq, by repeat (first | exact Drawn0.refl _ | apply Drawn0.step)⟩
       ·rw [if_neg c20] at H
        exact absurd H (by simp)
      ·rw [if_neg c19] at H
       have c19b0 : ((bt a0 0) == 58) = false := beq_eq_false_iff_ne.mpr c19
       have c19b1 : ((bt a0 0) != 58) = true := bne_iff_ne.mpr c19
       obtain rfl := Option.some.inj H
       have p18 : 0 ≤ (0 : Int) := (by omega)
       have q18 : 0 < a0.size := (by have : (0 : Int) < (a0.size : Int) := od; omega)
       have hx18 : ∀ h : 0 < a0.size, ((a0[0]'h).toNat : Int) = bt a0 0 := bt_at a0 0
       clear p18
       have qi18 : (0 < (a0.size : Int)) = True := eq_true (od)
       replace q18 := eq_true q18
       go_wp2
       go_ret
       exact ⟨rq, by repeat (first | exact Drawn0.refl _ | apply Drawn0.step)⟩
     ·rw [if_neg c17] at H
      exact absurd H (by simp)
    ·rw [if_neg c16] at H
     have c16b0 : decide (1 < (a0.size : Int)) = false := decide_eq_false c16
     have c16b1 : decide (1 < a0.size) = false := decide_eq_false (by omega)
     clear c16
     obtain rfl := Option.some.inj H
     go_wp2
     go_ret
     exact ⟨rq, by repeat (first | exact Drawn0.refl _ | apply Drawn0.step)⟩

/-! ### strings_Trim: function 59 -/

def strings_Trim.f (a0 : ByteArray) (a1 : ByteArray) : Option (ByteArray) := if a1.data.toList.all (fun b => decide (b.toNat < 128)) = true ∧ a1.size < 1000 ∧ a0.size ≤ 9223372036854775807 then some ⟨(Lib.trimS a0.data.toList a1.data.toList).toArray⟩ else none
theorem strings_Trim.calls (a0 : ByteArray) (a1 : ByteArray) (r : ByteArray) (w : World) (h : strings_Trim.f a0 a1 = some r) :
  Calls Tryd.prog 59 #[.string a0, .string a1] w fun e w' => e = .returned (.string r) ∧ Below w.heap.size w w' := by
 unfold strings_Trim.f at h
 split at h
 ·rename_i hc
  obtain ⟨h1, h2, h3⟩ := hc
  obtain rfl := Option.some.inj h
  refine (Any.strings_Trim_laid Tryd.lays160 (by kernel_rfl) a0 a1 w h3 (by omega) (fun j b hb => ?_)).mono fun e w' hh => hh
  exact of_decide_eq_true (List.all_eq_true.1 h1 b (List.mem_of_getElem? hb))
 ·cases h

end Go.Proofs.YtkijneohhilboaaDoor.PO
