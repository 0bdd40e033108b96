/- Written by this session's own program (xprint, made over the kit's print): Lean functions with the same answers as the Go functions, and the proofs of that. Not trusted: Lean checks it. -/
import Derived.Test.YtkijneohhilboaaGreatDoorPTx0
import Derived.Test.YtkijneohhilboaaGreatDoorPTx9
import Derived.Test.YtkijneohhilboaaGreatDoorPTx10
import Derived.Test.YtkijneohhilboaaGreatDoorPTx12
import Derived.Test.YtkijneohhilboaaGreatDoorXW
import Derived.Test.YtkijneohhilboaaGreatDoorXZ
namespace Go.Proofs.YtkijneohhilboaaGreatDoor.PT
open Go.Proofs.YtkijneohhilboaaGreatDoor.XZ
open Go.Proofs.YtkijneohhilboaaGreatDoor.XW Go.RowKit Go.Proofs.YtkijneohhilboaaGreatDoorW.PrintWords Go.Proofs.YtkijneohhilboaaGreatDoorW.PrintLast Go.Proofs.YtkijneohhilboaaGreatDoorW.PrintMore
attribute [local go_sem] max2_int min2_int max_two min_two max_three min_three max_four min_four   -- for this text's walks alone
set_option linter.unusedVariables false
set_option linter.unusedSimpArgs false

/-! ### targumref6_tail: function 26 -/
def targumref6_tail.j0 : Nat → ByteArray → Bool → Bool → Option (ByteArray × Bool)
 | 0, _, _, _ => none
 | k + 1, x0, x1, x17 => if x17 = true then (some ((⟨#[]⟩ : ByteArray), false)) else (if 1 ≤ (x0.size : Int) then ((targumref6_sign.f (x0.extract 1 x0.size)).bind fun bt265 => (if (bt265.1.size : Int) = (wrap64 ((x0.size : Int) - 1)) then (if x1 = true then ((targumref4_Digits.f k bt265.1).bind fun t267 => (if t267 = true then ((targumref4_Norm.f k bt265.2 bt265.1).bind fun t268 => (some (t268, true))) else (some ((⟨#[]⟩ : ByteArray), false)))) else (some ((⟨#[]⟩ : ByteArray), false))) else ((targumref4_Digits.f k bt265.1).bind fun t269 => (if t269 = true then ((targumref4_Norm.f k bt265.2 bt265.1).bind fun t270 => (some (t270, true))) else (some ((⟨#[]⟩ : ByteArray), false)))))) else (none))
def targumref6_tail.f (k : Nat) (a0 : ByteArray) (a1 : Bool) : Option (ByteArray × Bool) := if a0.toList = ([] : List UInt8) then (some ((⟨#[48]⟩ : ByteArray), true)) else (if 0 < (a0.size : Int) then (if (bt a0 0) = 101 then (targumref6_tail.j0 k a0 a1 false) else (targumref6_tail.j0 k a0 a1 ((bt a0 0) != 69))) else (none))
theorem targumref6_tail.mono_l : ∀ k, (∀ y0 y1 y2, LeO (targumref6_tail.j0 k y0 y1 y2) (targumref6_tail.j0 (k + 1) y0 y1 y2))
 | 0 => fun _ _ _ r h => by simp [targumref6_tail.j0] at h
 | k + 1 => by
  have ih0 := targumref6_tail.mono_l k
  ·intro y0 y1 y2
   unfold targumref6_tail.j0
   repeat' first | (with_reducible exact ih0 _ _ _) | (with_reducible exact targumref4_Digits.mono _ _) | (with_reducible exact targumref4_Norm.mono _ _ _) | (with_reducible exact LeO.refl _) | (with_reducible exact LeO.none _) | (with_reducible refine LeO.ite ?_ ?_) | (with_reducible refine LeO.bind ?_ (fun _ => ?_)) | exact ih0 _ _ _ | exact targumref4_Digits.mono _ _ | exact targumref4_Norm.mono _ _ _ | exact LeO.none _ | refine LeO.ite ?_ ?_ | refine LeO.bind ?_ (fun _ => ?_)
theorem targumref6_tail.mono : ∀ a0 a1 k, LeO (targumref6_tail.f k a0 a1) (targumref6_tail.f (k + 1) a0 a1) := by
 intro a0 a1 k
 have ih0 := targumref6_tail.mono_l k
 unfold targumref6_tail.f
 repeat' first | (with_reducible exact ih0 _ _ _) | (with_reducible exact targumref4_Digits.mono _ _) | (with_reducible exact targumref4_Norm.mono _ _ _) | (with_reducible exact LeO.refl _) | (with_reducible exact LeO.none _) | (with_reducible refine LeO.ite ?_ ?_) | (with_reducible refine LeO.bind ?_ (fun _ => ?_)) | exact ih0 _ _ _ | exact targumref4_Digits.mono _ _ | exact targumref4_Norm.mono _ _ _ | exact LeO.none _ | refine LeO.ite ?_ ?_ | refine LeO.bind ?_ (fun _ => ?_)
set_option maxHeartbeats 8000000 in
set_option maxRecDepth 100000 in
theorem targumref6_tail.calls (k : Nat) (a0 : ByteArray) (a1 : Bool) (r1 : ByteArray) (r2 : Bool) (w : World) (h : targumref6_tail.f k a0 a1 = some (r1, r2)) :
  Calls Tryz.prog 26 #[.string a0, .bool a1] w fun e w' => e = .returned (.tuple #[.string r1, .bool r2]) ∧ Drawn0 w w' := by
 have H : (if a0.toList = ([] : List UInt8) then (some ((⟨#[48]⟩ : ByteArray), true)) else (if 0 < (a0.size : Int) then (if (bt a0 0) = 101 then (targumref6_tail.j0 k a0 a1 false) else (targumref6_tail.j0 k a0 a1 ((bt a0 0) != 69))) else (none))) = some (r1, r2) := h
 clear h
 by_cases c3 : a0.toList = ([] : List UInt8)
 ·rw [if_pos c3] at H
  have c3b0 : (a0.toList == ([] : List UInt8)) = true := beq_iff_eq.mpr c3
  have c3b1 : (a0.toList != ([] : List UInt8)) = false := bne_eq_false_iff_eq.mpr c3
  clear c3
  simp only [Option.some.injEq, Prod.mk.injEq] at H
  obtain ⟨rfl, rfl⟩ := H
  go_enter Tryz.func26, Tryz.ntmps26
  go_wp2
  go_ret2
  exact ⟨by first | rfl | (simp; done) | (simp [*]; done) | (simp [wrap64]; done) | (simp; (generalize ByteArray.toList _ = z_); cases z_ <;> first | rfl | simp), by repeat (first | exact Drawn0.refl _ | apply Drawn0.step)⟩
 ·rw [if_neg c3] at H
  have c3b0 : (a0.toList == ([] : List UInt8)) = false := beq_eq_false_iff_ne.mpr c3
  have c3b1 : (a0.toList != ([] : List UInt8)) = true := bne_iff_ne.mpr c3
  have HC4 := AM H
  clear H
  go_enter Tryz.func26, Tryz.ntmps26
  go_upto_region 3 with (fail)
  go_cut [17] (fun v17 wc => ∃ (kq : Nat) (x17_3 : Bool), v17 = .bool x17_3 ∧ Aside0 (targumref6_tail.j0 kq a0 a1 x17_3 = some (r1, r2)) ∧ Aside0 (kq ≤ k) ∧ Drawn0 w wc)
  case first =>
   have H := HC4.out
   clear HC4
   by_cases c5 : 0 < (a0.size : Int)
   ·rw [if_pos c5] at H
    have c5b0 : decide (0 < (a0.size : Int)) = true := decide_eq_true c5; have c5b1 : decide (0 < a0.size) = true := decide_eq_true (by omega); clear c5; (first | rw [c5b0] | (simp only [qi, qj]; rw [c5b0]) | skip); by_cases c7 : (bt a0 0) = 101
    ·rw [if_pos c7] at H
     have c7b0 : ((bt a0 0) == 101) = true := beq_iff_eq.mpr c7; have c7b1 : ((bt a0 0) != 101) = false := bne_eq_false_iff_eq.mpr c7; clear c7; have H' := AM H; clear H; have p6 : 0 ≤ (0 : Int) := (by omega); have q6 : 0 < a0.size := (by have : (0 : Int) < (a0.size : Int) := od; omega); have hx6 : ∀ h : 0 < a0.size, ((a0[0]'h).toNat : Int) = bt a0 0 := bt_at a0 0; clear p6; have qi6 : (0 < (a0.size : Int)) = True := eq_true (od); replace q6 := eq_true q6; go_wp2; go_meet
     case rel => exact ⟨_, (false), rq, H', ⟨by first | omega | exact Nat.le_refl _⟩, by repeat (first | exact Drawn0.refl _ | apply Drawn0.step)⟩
    ·rw [if_neg c7] at H
     have c7b0 : ((bt a0 0) == 101) = false := beq_eq_false_iff_ne.mpr c7; have c7b1 : ((bt a0 0) != 101) = true := bne_iff_ne.mpr c7; have H' := AM H; clear H; have p6 : 0 ≤ (0 : Int) := (by omega); have q6 : 0 < a0.size := (by have : (0 : Int) < (a0.size : Int) := od; omega); have hx6 : ∀ h : 0 < a0.size, ((a0[0]'h).toNat : Int) = bt a0 0 := bt_at a0 0; clear p6; have qi6 : (0 < (a0.size : Int)) = True := eq_true (od); replace q6 := eq_true q6; have p8 : 0 ≤ (0 : Int) := (by omega); have q8 : 0 < a0.size := (by have : (0 : Int) < (a0.size : Int) := od; omega); have hx8 : ∀ h : 0 < a0.size, ((a0[0]'h).toNat : Int) = bt a0 0 := bt_at a0 0; clear p8; have qi8 : (0 < (a0.size : Int)) = True := eq_true (od); replace q8 := eq_true q8; go_wp2; go_meet
     case rel => exact ⟨_, (((bt a0 0) != 69)), rq, H', ⟨by first | omega | exact Nat.le_refl _⟩, by repeat (first | exact Drawn0.refl _ | apply Drawn0.step)⟩
   ·rw [if_neg c5] at H
    exact absurd H (by simp)
  case rest =>
   clear HC4
   try clear c3; try clear c3b0; try clear c3b1
   obtain ⟨kq, x17_3, rfl, HA, HJ3, ⟨mc3, rfl⟩⟩ := hcut
   cases kq with
   | zero => exact absurd HA.out (by simp [targumref6_tail.j0])
   | succ kj3 =>
    have H := HA.out; clear HA; simp only [targumref6_tail.j0] at H; by_cases c9 : x17_3 = true
    ·subst c9
     have H1 : (some ((⟨#[]⟩ : ByteArray), false)) = some (r1, r2) := by rw [if_pos rfl] at H; exact H
     clear H; have H := H1; clear H1; simp only [Option.some.injEq, Prod.mk.injEq] at H; obtain ⟨rfl, rfl⟩ := H; go_wp2; go_ret2
     exact ⟨by first | rfl | (simp; done) | (simp [*]; done) | (simp [wrap64]; done) | (simp; (generalize ByteArray.toList _ = z_); cases z_ <;> first | rfl | simp), by repeat (first | exact Drawn0.refl _ | apply Drawn0.step)⟩
    ·replace c9 := Bool.eq_false_iff.mpr c9
     subst c9; have H1 : (if 1 ≤ (a0.size : Int) then ((targumref6_sign.f (a0.extract 1 a0.size)).bind fun bt265 => (if (bt265.1.size : Int) = (wrap64 ((a0.size : Int) - 1)) then (if a1 = true then ((targumref4_Digits.f kj3 bt265.1).bind fun t267 => (if t267 = true then ((targumref4_Norm.f kj3 bt265.2 bt265.1).bind fun t268 => (some (t268, true))) else (some ((⟨#[]⟩ : ByteArray), false)))) else (some ((⟨#[]⟩ : ByteArray), false))) else ((targumref4_Digits.f kj3 bt265.1).bind fun t269 => (if t269 = true then ((targumref4_Norm.f kj3 bt265.2 bt265.1).bind fun t270 => (some (t270, true))) else (some ((⟨#[]⟩ : ByteArray), false)))))) else (none)) = some (r1, r2) := by rw [if_neg (show ¬ (false = true) by decide)] at H; exact H
     clear H; have H := H1; clear H1; by_cases c10 : 1 ≤ (a0.size : Int)
     ·rw [if_pos c10] at H
      have c10b0 := eq_true c10; have c10b1 : decide (1 ≤ (a0.size : Int)) = true := decide_eq_true c10; clear c10; replace H := Option.bind_eq_some_iff.mp H; obtain ⟨⟨t265, t266⟩, A110, H⟩ := H; replace H : (if (t265.size : Int) = (wrap64 ((a0.size : Int) - 1)) then (if a1 = true then ((targumref4_Digits.f kj3 t265).bind fun t267 => (if t267 = true then ((targumref4_Norm.f kj3 t266 t265).bind fun t268 => (some (t268, true))) else (some ((⟨#[]⟩ : ByteArray), false)))) else (some ((⟨#[]⟩ : ByteArray), false))) else ((targumref4_Digits.f kj3 t265).bind fun t269 => (if t269 = true then ((targumref4_Norm.f kj3 t266 t265).bind fun t270 => (some (t270, true))) else (some ((⟨#[]⟩ : ByteArray), false))))) = some (r1, r2) := H; have A11 := AM A110; clear A110; by_cases c12 : (t265.size : Int) = (wrap64 ((a0.size : Int) - 1))
      ·rw [if_pos c12] at H
       have c12b0 : ((t265.size : Int) == (wrap64 ((a0.size : Int) - 1))) = true := beq_iff_eq.mpr c12; have c12b1 : ((t265.size : Int) != (wrap64 ((a0.size : Int) - 1))) = false := bne_eq_false_iff_eq.mpr c12; clear c12; by_cases c13 : a1 = true
       ·subst c13
        have H1 : ((targumref4_Digits.f kj3 t265).bind fun t267 => (if t267 = true then ((targumref4_Norm.f kj3 t266 t265).bind fun t268 => (some (t268, true))) else (some ((⟨#[]⟩ : ByteArray), false)))) = some (r1, r2) := by rw [if_pos rfl] at H; exact H
        clear H; have H := H1; clear H1; replace H := Option.bind_eq_some_iff.mp H; obtain ⟨t267, A140, H⟩ := H; replace H : (if t267 = true then ((targumref4_Norm.f kj3 t266 t265).bind fun t268 => (some (t268, true))) else (some ((⟨#[]⟩ : ByteArray), false))) = some (r1, r2) := H; have A14 := AM A140; clear A140; by_cases c15 : t267 = true
        ·subst c15
         have H1 : ((targumref4_Norm.f kj3 t266 t265).bind fun t268 => (some (t268, true))) = some (r1, r2) := by rw [if_pos rfl] at H; exact H
         clear H; have H := H1; clear H1; replace H := Option.bind_eq_some_iff.mp H; obtain ⟨t268, A160, H⟩ := H; replace H : (some (t268, true)) = some (r1, r2) := H; have A16 := AM A160; clear A160; simp only [Option.some.injEq, Prod.mk.injEq] at H; obtain ⟨rfl, rfl⟩ := H; go_wp2_with (first | ((with_reducible refine gate_callee (f := 21) rfl ?_); refine goesL_ (some 21) rfl rfl Tryz.func21 (by kernel_rfl) rfl #[.string (a0.extract 1 a0.size)] rfl am ?_; (with_reducible refine (targumref6_sign.calls (a0.extract 1 a0.size) t265 t266 _ A11.out).mono ?_); rintro e w' ⟨rfl, ⟨nd, rfl⟩⟩; refine ⟨_, rfl, ?_⟩) | (go_at_call 28; (with_reducible refine (targumref4_Digits.calls kj3 t265 true _ A14.out).mono ?_); rintro e w' ⟨rfl, ⟨nd, rfl⟩⟩) | ((with_reducible refine gate_callee (f := 13) rfl ?_); refine goesL_ (some 41) rfl rfl Tryz.func13 (by kernel_rfl) rfl #[.bool t266, .string t265] rfl am ?_; (with_reducible refine (targumref4_Norm.calls kj3 t266 t265 t268 _ A16.out).mono ?_); rintro e w' ⟨rfl, ⟨nd, rfl⟩⟩; refine ⟨_, rfl, ?_⟩)); go_ret2
         exact ⟨by first | rfl | (simp; done) | (simp [*]; done) | (simp [wrap64]; done) | (simp; (generalize ByteArray.toList _ = z_); cases z_ <;> first | rfl | simp), by repeat (first | exact Drawn0.refl _ | apply Drawn0.step)⟩
        ·replace c15 := Bool.eq_false_iff.mpr c15
         subst c15; have H1 : (some ((⟨#[]⟩ : ByteArray), false)) = some (r1, r2) := by rw [if_neg (show ¬ (false = true) by decide)] at H; exact H
         clear H; have H := H1; clear H1; simp only [Option.some.injEq, Prod.mk.injEq] at H; obtain ⟨rfl, rfl⟩ := H; go_wp2_with (first | ((with_reducible refine gate_callee (f := 21) rfl ?_); refine goesL_ (some 21) rfl rfl Tryz.func21 (by kernel_rfl) rfl #[.string (a0.extract 1 a0.size)] rfl am ?_; (with_reducible refine (targumref6_sign.calls (a0.extract 1 a0.size) t265 t266 _ A11.out).mono ?_); rintro e w' ⟨rfl, ⟨nd, rfl⟩⟩; refine ⟨_, rfl, ?_⟩) | (go_at_call 28; (with_reducible refine (targumref4_Digits.calls kj3 t265 false _ A14.out).mono ?_); rintro e w' ⟨rfl, ⟨nd, rfl⟩⟩)); go_ret2
         exact ⟨by first | rfl | (simp; done) | (simp [*]; done) | (simp [wrap64]; done) | (simp; (generalize ByteArray.toList _ = z_); cases z_ <;> first | rfl | simp), by repeat (first | exact Drawn0.refl _ | apply Drawn0.step)⟩
       ·replace c13 := Bool.eq_false_iff.mpr c13
        subst c13; have H1 : (some ((⟨#[]⟩ : ByteArray), false)) = some (r1, r2) := by rw [if_neg (show ¬ (false = true) by decide)] at H; exact H
        clear H; have H := H1; clear H1; simp only [Option.some.injEq, Prod.mk.injEq] at H; obtain ⟨rfl, rfl⟩ := H; go_wp2_with (first | ((with_reducible refine gate_callee (f := 21) rfl ?_); refine goesL_ (some 21) rfl rfl Tryz.func21 (by kernel_rfl) rfl #[.string (a0.extract 1 a0.size)] rfl am ?_; (with_reducible refine (targumref6_sign.calls (a0.extract 1 a0.size) t265 t266 _ A11.out).mono ?_); rintro e w' ⟨rfl, ⟨nd, rfl⟩⟩; refine ⟨_, rfl, ?_⟩)); go_ret2
        exact ⟨by first | rfl | (simp; done) | (simp [*]; done) | (simp [wrap64]; done) | (simp; (generalize ByteArray.toList _ = z_); cases z_ <;> first | rfl | simp), by repeat (first | exact Drawn0.refl _ | apply Drawn0.step)⟩
      ·rw [if_neg c12] at H
       have c12b0 : ((t265.size : Int) == (wrap64 ((a0.size : Int) - 1))) = false := beq_eq_false_iff_ne.mpr c12; have c12b1 : ((t265.size : Int) != (wrap64 ((a0.size : Int) - 1))) = true := bne_iff_ne.mpr c12; replace H := Option.bind_eq_some_iff.mp H; obtain ⟨t269, A170, H⟩ := H; replace H : (if t269 = true then ((targumref4_Norm.f kj3 t266 t265).bind fun t270 => (some (t270, true))) else (some ((⟨#[]⟩ : ByteArray), false))) = some (r1, r2) := H; have A17 := AM A170; clear A170; by_cases c18 : t269 = true
       ·subst c18
        have H1 : ((targumref4_Norm.f kj3 t266 t265).bind fun t270 => (some (t270, true))) = some (r1, r2) := by rw [if_pos rfl] at H; exact H
        clear H; have H := H1; clear H1; replace H := Option.bind_eq_some_iff.mp H; obtain ⟨t270, A190, H⟩ := H; replace H : (some (t270, true)) = some (r1, r2) := H; have A19 := AM A190; clear A190; simp only [Option.some.injEq, Prod.mk.injEq] at H; obtain ⟨rfl, rfl⟩ := H; go_wp2_with (first | ((with_reducible refine gate_callee (f := 21) rfl ?_); refine goesL_ (some 21) rfl rfl Tryz.func21 (by kernel_rfl) rfl #[.string (a0.extract 1 a0.size)] rfl am ?_; (with_reducible refine (targumref6_sign.calls (a0.extract 1 a0.size) t265 t266 _ A11.out).mono ?_); rintro e w' ⟨rfl, ⟨nd, rfl⟩⟩; refine ⟨_, rfl, ?_⟩) | (go_at_call 28; (with_reducible refine (targumref4_Digits.calls kj3 t265 true _ A17.out).mono ?_); rintro e w' ⟨rfl, ⟨nd, rfl⟩⟩) | ((with_reducible refine gate_callee (f := 13) rfl ?_); refine goesL_ (some 41) rfl rfl Tryz.func13 (by kernel_rfl) rfl #[.bool t266, .string t265] rfl am ?_; (with_reducible refine (targumref4_Norm.calls kj3 t266 t265 t270 _ A19.out).mono ?_); rintro e w' ⟨rfl, ⟨nd, rfl⟩⟩; refine ⟨_, rfl, ?_⟩)); go_ret2
        exact ⟨by first | rfl | (simp; done) | (simp [*]; done) | (simp [wrap64]; done) | (simp; (generalize ByteArray.toList _ = z_); cases z_ <;> first | rfl | simp), by repeat (first | exact Drawn0.refl _ | apply Drawn0.step)⟩
       ·replace c18 := Bool.eq_false_iff.mpr c18
        subst c18; have H1 : (some ((⟨#[]⟩ : ByteArray), false)) = some (r1, r2) := by rw [if_neg (show ¬ (false = true) by decide)] at H; exact H
        clear H; have H := H1; clear H1; simp only [Option.some.injEq, Prod.mk.injEq] at H; obtain ⟨rfl, rfl⟩ := H; go_wp2_with (first | ((with_reducible refine gate_callee (f := 21) rfl ?_); refine goesL_ (some 21) rfl rfl Tryz.func21 (by kernel_rfl) rfl #[.string (a0.extract 1 a0.size)] rfl am ?_; (with_reducible refine (targumref6_sign.calls (a0.extract 1 a0.size) t265 t266 _ A11.out).mono ?_); rintro e w' ⟨rfl, ⟨nd, rfl⟩⟩; refine ⟨_, rfl, ?_⟩) | (go_at_call 28; (with_reducible refine (targumref4_Digits.calls kj3 t265 false _ A17.out).mono ?_); rintro e w' ⟨rfl, ⟨nd, rfl⟩⟩)); go_ret2
        exact ⟨by first | rfl | (simp; done) | (simp [*]; done) | (simp [wrap64]; done) | (simp; (generalize ByteArray.toList _ = z_); cases z_ <;> first | rfl | simp), by repeat (first | exact Drawn0.refl _ | apply Drawn0.step)⟩
     ·rw [if_neg c10] at H
      exact absurd H (by simp)

/-! ### targumref4_MulAdd: function 47 -/
def targumref4_MulAdd.f (k : Nat) (a0 : ByteArray) (a1 : Int) (a2 : Int) : Option (ByteArray) := (targumref4_Good.f k a0).bind fun t271 => (if t271 = true then (if 0 < (a0.size : Int) then (if (bt a0 0) = 45 then (some (⟨#[]⟩ : ByteArray)) else (if a1 < 0 then (some (⟨#[]⟩ : ByteArray)) else (if a1 > 1099511627776 then (some (⟨#[]⟩ : ByteArray)) else (if a2 < 0 then (some (⟨#[]⟩ : ByteArray)) else (if a2 > 1099511627776 then (some (⟨#[]⟩ : ByteArray)) else ((targumref4_mulAdd.f k a0 a1 a2).bind fun t272 => (some t272))))))) else (none)) else (some (⟨#[]⟩ : ByteArray)))
theorem targumref4_MulAdd.mono : ∀ a0 a1 a2 k, LeO (targumref4_MulAdd.f k a0 a1 a2) (targumref4_MulAdd.f (k + 1) a0 a1 a2) := by
 intro a0 a1 a2 k
 unfold targumref4_MulAdd.f
 repeat' first | (with_reducible exact targumref4_Good.mono _ _) | (with_reducible exact targumref4_mulAdd.mono _ _ _ _) | (with_reducible exact LeO.refl _) | (with_reducible exact LeO.none _) | (with_reducible refine LeO.ite ?_ ?_) | (with_reducible refine LeO.bind ?_ (fun _ => ?_)) | exact targumref4_Good.mono _ _ | exact targumref4_mulAdd.mono _ _ _ _ | exact LeO.none _ | refine LeO.ite ?_ ?_ | refine LeO.bind ?_ (fun _ => ?_)
set_option maxHeartbeats 8000000 in
set_option maxRecDepth 100000 in
theorem targumref4_MulAdd.calls (k : Nat) (a0 : ByteArray) (a1 : Int) (a2 : Int) (r : ByteArray) (w : World) (h : targumref4_MulAdd.f k a0 a1 a2 = some r) :
  Calls Tryz.prog 47 #[.string a0, .int .i64 a1, .int .i64 a2] w fun e w' => e = .returned (.string r) ∧ Below w.heap.size w w' := by
 have HB := AM (Below.refl w.heap.size w)
 have H : ((targumref4_Good.f k a0).bind fun t271 => (if t271 = true then (if 0 < (a0.size : Int) then (if (bt a0 0) = 45 then (some (⟨#[]⟩ : ByteArray)) else (if a1 < 0 then (some (⟨#[]⟩ : ByteArray)) else (if a1 > 1099511627776 then (some (⟨#[]⟩ : ByteArray)) else (if a2 < 0 then (some (⟨#[]⟩ : ByteArray)) else (if a2 > 1099511627776 then (some (⟨#[]⟩ : ByteArray)) else ((targumref4_mulAdd.f k a0 a1 a2).bind fun t272 => (some t272))))))) else (none)) else (some (⟨#[]⟩ : ByteArray)))) = some r := h
 clear h
 replace H := Option.bind_eq_some_iff.mp H
 obtain ⟨t271, A40, H⟩ := H
 replace H : (if t271 = true then (if 0 < (a0.size : Int) then (if (bt a0 0) = 45 then (some (⟨#[]⟩ : ByteArray)) else (if a1 < 0 then (some (⟨#[]⟩ : ByteArray)) else (if a1 > 1099511627776 then (some (⟨#[]⟩ : ByteArray)) else (if a2 < 0 then (some (⟨#[]⟩ : ByteArray)) else (if a2 > 1099511627776 then (some (⟨#[]⟩ : ByteArray)) else ((targumref4_mulAdd.f k a0 a1 a2).bind fun t272 => (some t272))))))) else (none)) else (some (⟨#[]⟩ : ByteArray))) = some r := H
 have A4 := AM A40
 clear A40
 by_cases c5 : t271 = true
 ·subst c5
  have H1 : (if 0 < (a0.size : Int) then (if (bt a0 0) = 45 then (some (⟨#[]⟩ : ByteArray)) else (if a1 < 0 then (some (⟨#[]⟩ : ByteArray)) else (if a1 > 1099511627776 then (some (⟨#[]⟩ : ByteArray)) else (if a2 < 0 then (some (⟨#[]⟩ : ByteArray)) else (if a2 > 1099511627776 then (some (⟨#[]⟩ : ByteArray)) else ((targumref4_mulAdd.f k a0 a1 a2).bind fun t272 => (some t272))))))) else (none)) = some r := by rw [if_pos rfl] at H; exact H
  clear H
  have H := H1
  clear H1
  by_cases c6 : 0 < (a0.size : Int)
  ·rw [if_pos c6] at H
   have c6b0 : decide (0 < (a0.size : Int)) = true := decide_eq_true c6
   have c6b1 : decide (0 < a0.size) = true := decide_eq_true (by omega)
   clear c6
   by_cases c8 : (bt a0 0) = 45
   ·rw [if_pos c8] at H
    have c8b0 : ((bt a0 0) == 45) = true := beq_iff_eq.mpr c8; have c8b1 : ((bt a0 0) != 45) = false := bne_eq_false_iff_eq.mpr c8; clear c8; obtain rfl := Option.some.inj H; go_enter Tryz.func47, Tryz.ntmps47; go_wp2_with (first | ((with_reducible refine gate_callee (f := 29) rfl ?_); refine goesL_ (some 8) rfl rfl Tryz.func29 (by kernel_rfl) rfl #[.string a0] rfl am ?_; (with_reducible refine (targumref4_Good.calls k a0 true _ A4.out).mono ?_); rintro e w' ⟨rfl, ⟨nd, rfl⟩⟩; refine ⟨_, rfl, ?_⟩; have p7 : 0 ≤ (0 : Int) := (by omega); have q7 : 0 < a0.size := (by have : (0 : Int) < (a0.size : Int) := od; omega); have hx7 : ∀ h : 0 < a0.size, ((a0[0]'h).toNat : Int) = bt a0 0 := bt_at a0 0; clear p7; have qi7 : (0 < (a0.size : Int)) = True := eq_true (od); replace q7 := eq_true q7)); go_ret
    exact ⟨by first | rfl | (simp [errW_none, errW_some] <;> rfl) | (simp [*, errW_none, errW_some] <;> rfl) | ((generalize ByteArray.toList _ = z_); cases z_ <;> first | rfl | (simp; done)), bl⟩
   ·rw [if_neg c8] at H
    have c8b0 : ((bt a0 0) == 45) = false := beq_eq_false_iff_ne.mpr c8; have c8b1 : ((bt a0 0) != 45) = true := bne_iff_ne.mpr c8; by_cases c9 : a1 < 0
    ·rw [if_pos c9] at H
     have c9b0 : decide (a1 < 0) = true := decide_eq_true c9; clear c9; obtain rfl := Option.some.inj H; go_enter Tryz.func47, Tryz.ntmps47; go_wp2_with (first | ((with_reducible refine gate_callee (f := 29) rfl ?_); refine goesL_ (some 8) rfl rfl Tryz.func29 (by kernel_rfl) rfl #[.string a0] rfl am ?_; (with_reducible refine (targumref4_Good.calls k a0 true _ A4.out).mono ?_); rintro e w' ⟨rfl, ⟨nd, rfl⟩⟩; refine ⟨_, rfl, ?_⟩; have p7 : 0 ≤ (0 : Int) := (by omega); have q7 : 0 < a0.size := (by have : (0 : Int) < (a0.size : Int) := od; omega); have hx7 : ∀ h : 0 < a0.size, ((a0[0]'h).toNat : Int) = bt a0 0 := bt_at a0 0; clear p7; have qi7 : (0 < (a0.size : Int)) = True := eq_true (od); replace q7 := eq_true q7)); go_ret
     exact ⟨by first | rfl | (simp [errW_none, errW_some] <;> rfl) | (simp [*, errW_none, errW_some] <;> rfl) | ((generalize ByteArray.toList _ = z_); cases z_ <;> first | rfl | (simp; done)), bl⟩
    ·rw [if_neg c9] at H
     have c9b0 : decide (a1 < 0) = false := decide_eq_false c9; clear c9; by_cases c10 : a1 > 1099511627776
     ·rw [if_pos c10] at H
      have c10b0 : decide (1099511627776 < a1) = true := decide_eq_true c10; clear c10; obtain rfl := Option.some.inj H; go_enter Tryz.func47, Tryz.ntmps47; go_wp2_with (first | ((with_reducible refine gate_callee (f := 29) rfl ?_); refine goesL_ (some 8) rfl rfl Tryz.func29 (by kernel_rfl) rfl #[.string a0] rfl am ?_; (with_reducible refine (targumref4_Good.calls k a0 true _ A4.out).mono ?_); rintro e w' ⟨rfl, ⟨nd, rfl⟩⟩; refine ⟨_, rfl, ?_⟩; have p7 : 0 ≤ (0 : Int) := (by omega); have q7 : 0 < a0.size := (by have : (0 : Int) < (a0.size : Int) := od; omega); have hx7 : ∀ h : 0 < a0.size, ((a0[0]'h).toNat : Int) = bt a0 0 := bt_at a0 0; clear p7; have qi7 : (0 < (a0.size : Int)) = True := eq_true (od); replace q7 := eq_true q7)); go_ret
      exact ⟨by first | rfl | (simp [errW_none, errW_some] <;> rfl) | (simp [*, errW_none, errW_some] <;> rfl) | ((generalize ByteArray.toList _ = z_); cases z_ <;> first | rfl | (simp; done)), bl⟩
     ·rw [if_neg c10] at H
      have c10b0 : decide (1099511627776 < a1) = false := decide_eq_false c10; clear c10; by_cases c11 : a2 < 0
      ·rw [if_pos c11] at H
       have c11b0 : decide (a2 < 0) = true := decide_eq_true c11; clear c11; obtain rfl := Option.some.inj H; go_enter Tryz.func47, Tryz.ntmps47; go_wp2_with (first | ((with_reducible refine gate_callee (f := 29) rfl ?_); refine goesL_ (some 8) rfl rfl Tryz.func29 (by kernel_rfl) rfl #[.string a0] rfl am ?_; (with_reducible refine (targumref4_Good.calls k a0 true _ A4.out).mono ?_); rintro e w' ⟨rfl, ⟨nd, rfl⟩⟩; refine ⟨_, rfl, ?_⟩; have p7 : 0 ≤ (0 : Int) := (by omega); have q7 : 0 < a0.size := (by have : (0 : Int) < (a0.size : Int) := od; omega); have hx7 : ∀ h : 0 < a0.size, ((a0[0]'h).toNat : Int) = bt a0 0 := bt_at a0 0; clear p7; have qi7 : (0 < (a0.size : Int)) = True := eq_true (od); replace q7 := eq_true q7)); go_ret
       exact ⟨by first | rfl | (simp [errW_none, errW_some] <;> rfl) | (simp [*, errW_none, errW_some] <;> rfl) | ((generalize ByteArray.toList _ = z_); cases z_ <;> first | rfl | (simp; done)), bl⟩
      ·rw [if_neg c11] at H
       have c11b0 : decide (a2 < 0) = false := decide_eq_false c11; clear c11; by_cases c12 : a2 > 1099511627776
       ·rw [if_pos c12] at H
        have c12b0 : decide (1099511627776 < a2) = true := decide_eq_true c12; clear c12; obtain rfl := Option.some.inj H; go_enter Tryz.func47, Tryz.ntmps47; go_wp2_with (first | ((with_reducible refine gate_callee (f := 29) rfl ?_); refine goesL_ (some 8) rfl rfl Tryz.func29 (by kernel_rfl) rfl #[.string a0] rfl am ?_; (with_reducible refine (targumref4_Good.calls k a0 true _ A4.out).mono ?_); rintro e w' ⟨rfl, ⟨nd, rfl⟩⟩; refine ⟨_, rfl, ?_⟩; have p7 : 0 ≤ (0 : Int) := (by omega); have q7 : 0 < a0.size := (by have : (0 : Int) < (a0.size : Int) := od; omega); have hx7 : ∀ h : 0 < a0.size, ((a0[0]'h).toNat : Int) = bt a0 0 := bt_at a0 0; clear p7; have qi7 : (0 < (a0.size : Int)) = True := eq_true (od); replace q7 := eq_true q7)); go_ret
        exact ⟨by first | rfl | (simp [errW_none, errW_some] <;> rfl) | (simp [*, errW_none, errW_some] <;> rfl) | ((generalize ByteArray.toList _ = z_); cases z_ <;> first | rfl | (simp; done)), bl⟩
       ·rw [if_neg c12] at H
        have c12b0 : decide (1099511627776 < a2) = false := decide_eq_false c12; clear c12; replace H := Option.bind_eq_some_iff.mp H; obtain ⟨t272, A130, H⟩ := H; replace H : (some t272) = some r := H; have A13 := AM A130; clear A130; obtain rfl := Option.some.inj H; go_enter Tryz.func47, Tryz.ntmps47; go_wp2_with (first | ((with_reducible refine gate_callee (f := 29) rfl ?_); refine goesL_ (some 8) rfl rfl Tryz.func29 (by kernel_rfl) rfl #[.string a0] rfl am ?_; (with_reducible refine (targumref4_Good.calls k a0 true _ A4.out).mono ?_); rintro e w' ⟨rfl, ⟨nd, rfl⟩⟩; refine ⟨_, rfl, ?_⟩; have p7 : 0 ≤ (0 : Int) := (by omega); have q7 : 0 < a0.size := (by have : (0 : Int) < (a0.size : Int) := od; omega); have hx7 : ∀ h : 0 < a0.size, ((a0[0]'h).toNat : Int) = bt a0 0 := bt_at a0 0; clear p7; have qi7 : (0 < (a0.size : Int)) = True := eq_true (od); replace q7 := eq_true q7) | ((with_reducible refine gate_callee (f := 48) rfl ?_); refine goesL_ (some 34) rfl rfl Tryz.func48 (by kernel_rfl) rfl #[.string a0, .int .i64 a1, .int .i64 a2] rfl am ?_; (with_reducible refine (targumref4_mulAdd.calls k a0 a1 a2 t272 _ A13.out).mono ?_); rintro e w14 ⟨rfl, hb⟩; refine ⟨_, rfl, ?_⟩; replace HB := AM (below_step bl hb); (try clear hb))); go_ret
        exact ⟨by first | rfl | (simp [errW_none, errW_some] <;> rfl) | (simp [*, errW_none, errW_some] <;> rfl) | ((generalize ByteArray.toList _ = z_); cases z_ <;> first | rfl | (simp; done)), bl⟩
  ·rw [if_neg c6] at H
   exact absurd H (by simp)
 ·replace c5 := Bool.eq_false_iff.mpr c5
  subst c5
  have H1 : (some (⟨#[]⟩ : ByteArray)) = some r := by rw [if_neg (show ¬ (false = true) by decide)] at H; exact H
  clear H
  have H := H1
  clear H1
  obtain rfl := Option.some.inj H
  go_enter Tryz.func47, Tryz.ntmps47
  go_wp2_with (first | ((with_reducible refine gate_callee (f := 29) rfl ?_); refine goesL_ (some 8) rfl rfl Tryz.func29 (by kernel_rfl) rfl #[.string a0] rfl am ?_; (with_reducible refine (targumref4_Good.calls k a0 false _ A4.out).mono ?_); rintro e w' ⟨rfl, ⟨nd, rfl⟩⟩; refine ⟨_, rfl, ?_⟩))
  go_ret
  exact ⟨by first | rfl | (simp [errW_none, errW_some] <;> rfl) | (simp [*, errW_none, errW_some] <;> rfl) | ((generalize ByteArray.toList _ = z_); cases z_ <;> first | rfl | (simp; done)), bl⟩

end Go.Proofs.YtkijneohhilboaaGreatDoor.PT
