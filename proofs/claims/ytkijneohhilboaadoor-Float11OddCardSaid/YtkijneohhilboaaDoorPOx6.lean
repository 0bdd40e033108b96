/- Written by this session's own program (xprint, made over the kit's print): Lean functions with the same answers as the Go functions, and the proofs of that. Not trusted: Lean checks it. -/
import Derived.Test.YtkijneohhilboaaDoorPOx0
import Derived.Test.YtkijneohhilboaaDoorPOx2
import Derived.Test.YtkijneohhilboaaDoorPOx4
import Derived.Test.YtkijneohhilboaaDoorPOx5
import Derived.Test.YtkijneohhilboaaDoorXV
import Derived.Test.YtkijneohhilboaaDoorXW
import Derived.Test.YtkijneohhilboaaDoorXZ
namespace Go.Proofs.YtkijneohhilboaaDoor.PO
open Go.Proofs.YtkijneohhilboaaDoor.XZ
open Go.Proofs.YtkijneohhilboaaDoor.XW Go.RowKit Go.Proofs.YtkijneohhilboaaDoorW.PrintWords Go.Proofs.YtkijneohhilboaaDoorW.PrintLast Go.Proofs.YtkijneohhilboaaDoorW.PrintMore
attribute [local go_sem] max2_int min2_int max_two min_two max_three min_three max_four min_four   -- for this text's walks alone
set_option linter.unusedVariables false
set_option linter.unusedSimpArgs false

/-! ### big_step: function 48 -/
def big_step.f (a0 : Int) : Option (Bool) := if a0 ≥ 0 then (some (decide (a0 ≤ 1099511627776))) else (some false)
set_option maxHeartbeats 8000000 in
set_option maxRecDepth 100000 in
theorem big_step.calls (a0 : Int) (r : Bool) (w : World) (h : big_step.f a0 = some r) :
  Calls Tryd.prog 48 #[.int .i64 a0] w fun e w' => e = .returned (.bool r) ∧ Drawn0 w w' := by
 have H : (if a0 ≥ 0 then (some (decide (a0 ≤ 1099511627776))) else (some false)) = some r := h
 clear h
 by_cases c2 : a0 ≥ 0
 ·rw [if_pos c2] at H
  have c2b0 : decide (0 ≤ a0) = true := decide_eq_true c2
  clear c2
  obtain rfl := Option.some.inj H
  go_enter Tryd.func48, Tryd.ntmps48
  go_wp2
  go_ret
  exact ⟨rq, by repeat (first | exact Drawn0.refl _ | apply Drawn0.step)⟩
 ·rw [if_neg c2] at H
  have c2b0 : decide (0 ≤ a0) = false := decide_eq_false c2
  clear c2
  obtain rfl := Option.some.inj H
  go_enter Tryd.func48, Tryd.ntmps48
  go_wp2
  go_ret
  exact ⟨rq, by repeat (first | exact Drawn0.refl _ | apply Drawn0.step)⟩

/-! ### big_MulAdd: function 28 -/
def big_MulAdd.f (k : Nat) (a0 : ByteArray) (a1 : Int) (a2 : Int) : Option (ByteArray) := (big_Good.f k a0).bind fun t153 => (if t153 = true then (if 0 < (a0.size : Int) then (if (bt a0 0) = 45 then (some (⟨#[]⟩ : ByteArray)) else ((big_step.f a1).bind fun t154 => (if t154 = true then ((big_step.f a2).bind fun t155 => (if t155 = true then ((big_times.f k a0 a1 a2).bind fun t156 => (some t156)) else (some (⟨#[]⟩ : ByteArray)))) else (some (⟨#[]⟩ : ByteArray))))) else (none)) else (some (⟨#[]⟩ : ByteArray)))
theorem big_MulAdd.mono : ∀ a0 a1 a2 k, LeO (big_MulAdd.f k a0 a1 a2) (big_MulAdd.f (k + 1) a0 a1 a2) := by
 intro a0 a1 a2 k
 unfold big_MulAdd.f
 repeat' first | (with_reducible exact big_Good.mono _ _) | (with_reducible exact big_times.mono _ _ _ _) | (with_reducible exact LeO.refl _) | (with_reducible exact LeO.none _) | (with_reducible refine LeO.ite ?_ ?_) | (with_reducible refine LeO.bind ?_ (fun _ => ?_)) | exact big_Good.mono _ _ | exact big_times.mono _ _ _ _ | exact LeO.none _ | refine LeO.ite ?_ ?_ | refine LeO.bind ?_ (fun _ => ?_)
set_option maxHeartbeats 8000000 in
set_option maxRecDepth 100000 in
theorem big_MulAdd.calls (k : Nat) (a0 : ByteArray) (a1 : Int) (a2 : Int) (r : ByteArray) (w : World) (hG : Go.Proofs.YtkijneohhilboaaDoor.POT.Tabs w) (h : big_MulAdd.f k a0 a1 a2 = some r) :
  Calls Tryd.prog 28 #[.string a0, .int .i64 a1, .int .i64 a2] w fun e w' => e = .returned (.string r) ∧ Below w.heap.size w w' := by
 have HG := AM hG
 clear hG
 have HB := AM (Below.refl w.heap.size w)
 have H : ((big_Good.f k a0).bind fun t153 => (if t153 = true then (if 0 < (a0.size : Int) then (if (bt a0 0) = 45 then (some (⟨#[]⟩ : ByteArray)) else ((big_step.f a1).bind fun t154 => (if t154 = true then ((big_step.f a2).bind fun t155 => (if t155 = true then ((big_times.f k a0 a1 a2).bind fun t156 => (some t156)) else (some (⟨#[]⟩ : ByteArray)))) else (some (⟨#[]⟩ : ByteArray))))) else (none)) else (some (⟨#[]⟩ : ByteArray)))) = some r := h
 clear h
 replace H := Option.bind_eq_some_iff.mp H
 obtain ⟨t153, A40, H⟩ := H
 replace H : (if t153 = true then (if 0 < (a0.size : Int) then (if (bt a0 0) = 45 then (some (⟨#[]⟩ : ByteArray)) else ((big_step.f a1).bind fun t154 => (if t154 = true then ((big_step.f a2).bind fun t155 => (if t155 = true then ((big_times.f k a0 a1 a2).bind fun t156 => (some t156)) else (some (⟨#[]⟩ : ByteArray)))) else (some (⟨#[]⟩ : ByteArray))))) else (none)) else (some (⟨#[]⟩ : ByteArray))) = some r := H
 have A4 := AM A40
 clear A40
 by_cases c5 : t153 = true
 ·subst c5
  have H1 : (if 0 < (a0.size : Int) then (if (bt a0 0) = 45 then (some (⟨#[]⟩ : ByteArray)) else ((big_step.f a1).bind fun t154 => (if t154 = true then ((big_step.f a2).bind fun t155 => (if t155 = true then ((big_times.f k a0 a1 a2).bind fun t156 => (some t156)) else (some (⟨#[]⟩ : ByteArray)))) else (some (⟨#[]⟩ : ByteArray))))) else (none)) = some r := by rw [if_pos rfl] at H; exact H
  clear H
  have H := H1
  clear H1
  by_cases c6 : 0 < (a0.size : Int)
  ·rw [if_pos c6] at H
   have c6b0 : decide (0 < (a0.size : Int)) = true := decide_eq_true c6
   have c6b1 : decide (0 < a0.size) = true := decide_eq_true (by omega)
   clear c6
   by_cases c8 : (bt a0 0) = 45
   ·rw [if_pos c8] at H
    have c8b0 : ((bt a0 0) == 45) = true := beq_iff_eq.mpr c8; have c8b1 : ((bt a0 0) != 45) = false := bne_eq_false_iff_eq.mpr c8; clear c8; obtain rfl := Option.some.inj H; go_enter Tryd.func28, Tryd.ntmps28; go_wp2_with (first | ((with_reducible refine gate_callee (f := 47) rfl ?_); refine goesL_ (some 8) rfl rfl Tryd.func47 (by kernel_rfl) rfl #[.string a0] rfl am ?_; (with_reducible refine (big_Good.calls k a0 true _ A4.out).mono ?_); rintro e w' ⟨rfl, ⟨nd, rfl⟩⟩; refine ⟨_, rfl, ?_⟩; have p7 : 0 ≤ (0 : Int) := (by omega); have q7 : 0 < a0.size := (by have : (0 : Int) < (a0.size : Int) := od; omega); have hx7 : ∀ h : 0 < a0.size, ((a0[0]'h).toNat : Int) = bt a0 0 := bt_at a0 0; clear p7; have qi7 : (0 < (a0.size : Int)) = True := eq_true (od); replace q7 := eq_true q7)); go_ret
    exact ⟨ew, bl⟩
   ·rw [if_neg c8] at H
    have c8b0 : ((bt a0 0) == 45) = false := beq_eq_false_iff_ne.mpr c8; have c8b1 : ((bt a0 0) != 45) = true := bne_iff_ne.mpr c8; replace H := Option.bind_eq_some_iff.mp H; obtain ⟨t154, A90, H⟩ := H; replace H : (if t154 = true then ((big_step.f a2).bind fun t155 => (if t155 = true then ((big_times.f k a0 a1 a2).bind fun t156 => (some t156)) else (some (⟨#[]⟩ : ByteArray)))) else (some (⟨#[]⟩ : ByteArray))) = some r := H; have A9 := AM A90; clear A90; by_cases c10 : t154 = true
    ·subst c10
     have H1 : ((big_step.f a2).bind fun t155 => (if t155 = true then ((big_times.f k a0 a1 a2).bind fun t156 => (some t156)) else (some (⟨#[]⟩ : ByteArray)))) = some r := by rw [if_pos rfl] at H; exact H
     clear H; have H := H1; clear H1; replace H := Option.bind_eq_some_iff.mp H; obtain ⟨t155, A110, H⟩ := H; replace H : (if t155 = true then ((big_times.f k a0 a1 a2).bind fun t156 => (some t156)) else (some (⟨#[]⟩ : ByteArray))) = some r := H; have A11 := AM A110; clear A110; by_cases c12 : t155 = true
     ·subst c12
      have H1 : ((big_times.f k a0 a1 a2).bind fun t156 => (some t156)) = some r := by rw [if_pos rfl] at H; exact H
      clear H; have H := H1; clear H1; replace H := Option.bind_eq_some_iff.mp H; obtain ⟨t156, A130, H⟩ := H; replace H : (some t156) = some r := H; have A13 := AM A130; clear A130; obtain rfl := Option.some.inj H; go_enter Tryd.func28, Tryd.ntmps28; go_wp2_with (first | ((with_reducible refine gate_callee (f := 47) rfl ?_); refine goesL_ (some 8) rfl rfl Tryd.func47 (by kernel_rfl) rfl #[.string a0] rfl am ?_; (with_reducible refine (big_Good.calls k a0 true _ A4.out).mono ?_); rintro e w' ⟨rfl, ⟨nd, rfl⟩⟩; refine ⟨_, rfl, ?_⟩; have p7 : 0 ≤ (0 : Int) := (by omega); have q7 : 0 < a0.size := (by have : (0 : Int) < (a0.size : Int) := od; omega); have hx7 : ∀ h : 0 < a0.size, ((a0[0]'h).toNat : Int) = bt a0 0 := bt_at a0 0; clear p7; have qi7 : (0 < (a0.size : Int)) = True := eq_true (od); replace q7 := eq_true q7) | (go_at_call 48; (with_reducible refine (big_step.calls a1 true _ A9.out).mono ?_); rintro e w' ⟨rfl, ⟨nd, rfl⟩⟩) | (go_at_call 48; (with_reducible refine (big_step.calls a2 true _ A11.out).mono ?_); rintro e w' ⟨rfl, ⟨nd, rfl⟩⟩) | ((with_reducible refine gate_callee (f := 42) rfl ?_); refine goesL_ (some 28) rfl rfl Tryd.func42 (by kernel_rfl) rfl #[.string a0, .int .i64 a1, .int .i64 a2] rfl am ?_; (with_reducible refine (big_times.calls k a0 a1 a2 t156 _ ?side1 A13.out).mono ?_); (case side1 => exact Go.Proofs.YtkijneohhilboaaDoor.POT.Tabs_below HG.out bl); rintro e w14 ⟨rfl, hb⟩; refine ⟨_, rfl, ?_⟩; replace HB := AM (below_step bl hb); (try clear hb))); go_ret
      exact ⟨ew, bl⟩
     ·replace c12 := Bool.eq_false_iff.mpr c12
      subst c12; have H1 : (some (⟨#[]⟩ : ByteArray)) = some r := by rw [if_neg (show ¬ (false = true) by decide)] at H; exact H
      clear H; have H := H1; clear H1; obtain rfl := Option.some.inj H; go_enter Tryd.func28, Tryd.ntmps28; go_wp2_with (first | ((with_reducible refine gate_callee (f := 47) rfl ?_); refine goesL_ (some 8) rfl rfl Tryd.func47 (by kernel_rfl) rfl #[.string a0] rfl am ?_; (with_reducible refine (big_Good.calls k a0 true _ A4.out).mono ?_); rintro e w' ⟨rfl, ⟨nd, rfl⟩⟩; refine ⟨_, rfl, ?_⟩; have p7 : 0 ≤ (0 : Int) := (by omega); have q7 : 0 < a0.size := (by have : (0 : Int) < (a0.size : Int) := od; omega); have hx7 : ∀ h : 0 < a0.size, ((a0[0]'h).toNat : Int) = bt a0 0 := bt_at a0 0; clear p7; have qi7 : (0 < (a0.size : Int)) = True := eq_true (od); replace q7 := eq_true q7) | (go_at_call 48; (with_reducible refine (big_step.calls a1 true _ A9.out).mono ?_); rintro e w' ⟨rfl, ⟨nd, rfl⟩⟩) | (go_at_call 48; (with_reducible refine (big_step.calls a2 false _ A11.out).mono ?_); rintro e w' ⟨rfl, ⟨nd, rfl⟩⟩)); go_ret
      exact ⟨ew, bl⟩
    ·replace c10 := Bool.eq_false_iff.mpr c10
     subst c10; have H1 : (some (⟨#[]⟩ : ByteArray)) = some r := by rw [if_neg (show ¬ (false = true) by decide)] at H; exact H
     clear H; have H := H1; clear H1; obtain rfl := Option.some.inj H; go_enter Tryd.func28, Tryd.ntmps28; go_wp2_with (first | ((with_reducible refine gate_callee (f := 47) rfl ?_); refine goesL_ (some 8) rfl rfl Tryd.func47 (by kernel_rfl) rfl #[.string a0] rfl am ?_; (with_reducible refine (big_Good.calls k a0 true _ A4.out).mono ?_); rintro e w' ⟨rfl, ⟨nd, rfl⟩⟩; refine ⟨_, rfl, ?_⟩; have p7 : 0 ≤ (0 : Int) := (by omega); have q7 : 0 < a0.size := (by have : (0 : Int) < (a0.size : Int) := od; omega); have hx7 : ∀ h : 0 < a0.size, ((a0[0]'h).toNat : Int) = bt a0 0 := bt_at a0 0; clear p7; have qi7 : (0 < (a0.size : Int)) = True := eq_true (od); replace q7 := eq_true q7) | (go_at_call 48; (with_reducible refine (big_step.calls a1 false _ A9.out).mono ?_); rintro e w' ⟨rfl, ⟨nd, rfl⟩⟩)); go_ret
     exact ⟨ew, bl⟩
  ·rw [if_neg c6] at H
   exact absurd H (by simp)
 ·replace c5 := Bool.eq_false_iff.mpr c5
  subst c5
  have H1 : (some (⟨#[]⟩ : ByteArray)) = some r := by rw [if_neg (show ¬ (false = true) by decide)] at H; exact H
  clear H
  have H := H1
  clear H1
  obtain rfl := Option.some.inj H
  go_enter Tryd.func28, Tryd.ntmps28
  go_wp2_with (first | ((with_reducible refine gate_callee (f := 47) rfl ?_); refine goesL_ (some 8) rfl rfl Tryd.func47 (by kernel_rfl) rfl #[.string a0] rfl am ?_; (with_reducible refine (big_Good.calls k a0 false _ A4.out).mono ?_); rintro e w' ⟨rfl, ⟨nd, rfl⟩⟩; refine ⟨_, rfl, ?_⟩))
  go_ret
  exact ⟨ew, bl⟩

/-! ### float11_whole: function 39 -/
mutual
def float11_whole.l0 : Nat → ByteArray → List ByteArray → Int → Int → Option (ByteArray)
 | 0, _, _, _, _ => none
 | k + 1, x4, x15, x16, x17 => if x17 < x16 then (if 0 ≤ x17 then (if x17 < (x15.length : Int) then (if x17 = 0 then ((big_Norm.f k false x4).bind fun t166 => (float11_whole.j1 k t166 (rdOf ByteArray.empty x15 x17) x15 x16 x17)) else (float11_whole.j1 k x4 (rdOf ByteArray.empty x15 x17) x15 x16 x17)) else (none)) else (none)) else (some x4)
def float11_whole.j1 : Nat → ByteArray → ByteArray → List ByteArray → Int → Int → Option (ByteArray)
 | 0, _, _, _, _, _ => none
 | k + 1, x4, x6, x15, x16, x17 => float11_whole.l1 k x4 x6 0 x15 x16 x17 (x6.size : Int) 0
def float11_whole.l1 : Nat → ByteArray → ByteArray → Int → List ByteArray → Int → Int → Int → Int → Option (ByteArray)
 | 0, _, _, _, _, _, _, _, _ => none
 | k + 1, x4, x6, x7, x15, x16, x17, x27, x28 => if x28 < x27 then (if 0 ≤ x28 then (if x28 < (x6.size : Int) then (float11_whole.l1 k x4 x6 (wrap64 ((wrap64 (10 * x7)) + (((bt x6 x28) - 48) % 256))) x15 x16 x17 x27 (wrap64 (x28 + 1))) else (none)) else (none)) else ((big_MulAdd.f k x4 60 x7).bind fun t167 => (float11_whole.l0 k t167 x15 x16 (wrap64 (x17 + 1))))
end
def float11_whole.f (k : Nat) (a0 : ByteArray) : Option (ByteArray) := (strings_Split.f a0 (⟨#[58]⟩ : ByteArray)).bind fun t157 => (if 0 < (t157.length : Int) then (if 1 ≤ (t157.length : Int) then ((some (t157.drop 1 : List ByteArray)).bind fun y161 => (float11_whole.l0 k (rdOf ByteArray.empty t157 0) y161 (y161.length : Int) 0)) else (none)) else (none))
theorem float11_whole.mono_l : ∀ k, (∀ y0 y1 y2 y3, LeO (float11_whole.l0 k y0 y1 y2 y3) (float11_whole.l0 (k + 1) y0 y1 y2 y3)) ∧ (∀ y0 y1 y2 y3 y4, LeO (float11_whole.j1 k y0 y1 y2 y3 y4) (float11_whole.j1 (k + 1) y0 y1 y2 y3 y4)) ∧ (∀ y0 y1 y2 y3 y4 y5 y6 y7, LeO (float11_whole.l1 k y0 y1 y2 y3 y4 y5 y6 y7) (float11_whole.l1 (k + 1) y0 y1 y2 y3 y4 y5 y6 y7))
 | 0 => ⟨fun _ _ _ _ r h => by simp [float11_whole.l0] at h, fun _ _ _ _ _ r h => by simp [float11_whole.j1] at h, fun _ _ _ _ _ _ _ _ r h => by simp [float11_whole.l1] at h⟩
 | k + 1 => by
  obtain ⟨ih0, ih1, ih2⟩ := float11_whole.mono_l k
  refine ⟨?_, ?_, ?_⟩
  ·intro y0 y1 y2 y3
   unfold float11_whole.l0
   repeat' first | (with_reducible exact ih0 _ _ _ _) | (with_reducible exact ih1 _ _ _ _ _) | (with_reducible exact ih2 _ _ _ _ _ _ _ _) | (with_reducible exact big_MulAdd.mono _ _ _ _) | (with_reducible exact big_Norm.mono _ _ _) | (with_reducible exact LeO.refl _) | (with_reducible exact LeO.none _) | (with_reducible refine LeO.ite ?_ ?_) | (with_reducible refine LeO.bind ?_ (fun _ => ?_)) | exact ih0 _ _ _ _ | exact ih1 _ _ _ _ _ | exact ih2 _ _ _ _ _ _ _ _ | exact big_MulAdd.mono _ _ _ _ | exact big_Norm.mono _ _ _ | exact LeO.none _ | refine LeO.ite ?_ ?_ | refine LeO.bind ?_ (fun _ => ?_)
  ·intro y0 y1 y2 y3 y4
   unfold float11_whole.j1
   repeat' first | (with_reducible exact ih0 _ _ _ _) | (with_reducible exact ih1 _ _ _ _ _) | (with_reducible exact ih2 _ _ _ _ _ _ _ _) | (with_reducible exact big_MulAdd.mono _ _ _ _) | (with_reducible exact big_Norm.mono _ _ _) | (with_reducible exact LeO.refl _) | (with_reducible exact LeO.none _) | (with_reducible refine LeO.ite ?_ ?_) | (with_reducible refine LeO.bind ?_ (fun _ => ?_)) | exact ih0 _ _ _ _ | exact ih1 _ _ _ _ _ | exact ih2 _ _ _ _ _ _ _ _ | exact big_MulAdd.mono _ _ _ _ | exact big_Norm.mono _ _ _ | exact LeO.none _ | refine LeO.ite ?_ ?_ | refine LeO.bind ?_ (fun _ => ?_)
  ·intro y0 y1 y2 y3 y4 y5 y6 y7
   unfold float11_whole.l1
   repeat' first | (with_reducible exact ih0 _ _ _ _) | (with_reducible exact ih1 _ _ _ _ _) | (with_reducible exact ih2 _ _ _ _ _ _ _ _) | (with_reducible exact big_MulAdd.mono _ _ _ _) | (with_reducible exact big_Norm.mono _ _ _) | (with_reducible exact LeO.refl _) | (with_reducible exact LeO.none _) | (with_reducible refine LeO.ite ?_ ?_) | (with_reducible refine LeO.bind ?_ (fun _ => ?_)) | exact ih0 _ _ _ _ | exact ih1 _ _ _ _ _ | exact ih2 _ _ _ _ _ _ _ _ | exact big_MulAdd.mono _ _ _ _ | exact big_Norm.mono _ _ _ | exact LeO.none _ | refine LeO.ite ?_ ?_ | refine LeO.bind ?_ (fun _ => ?_)
theorem float11_whole.mono : ∀ a0 k, LeO (float11_whole.f k a0) (float11_whole.f (k + 1) a0) := by
 intro a0 k
 obtain ⟨ih0, ih1, ih2⟩ := float11_whole.mono_l k
 unfold float11_whole.f
 repeat' first | (with_reducible exact ih0 _ _ _ _) | (with_reducible exact ih1 _ _ _ _ _) | (with_reducible exact ih2 _ _ _ _ _ _ _ _) | (with_reducible exact big_MulAdd.mono _ _ _ _) | (with_reducible exact big_Norm.mono _ _ _) | (with_reducible exact LeO.refl _) | (with_reducible exact LeO.none _) | (with_reducible refine LeO.ite ?_ ?_) | (with_reducible refine LeO.bind ?_ (fun _ => ?_)) | exact ih0 _ _ _ _ | exact ih1 _ _ _ _ _ | exact ih2 _ _ _ _ _ _ _ _ | exact big_MulAdd.mono _ _ _ _ | exact big_Norm.mono _ _ _ | exact LeO.none _ | refine LeO.ite ?_ ?_ | refine LeO.bind ?_ (fun _ => ?_)
set_option maxHeartbeats 8000000 in
set_option maxRecDepth 100000 in
theorem float11_whole.calls (k : Nat) (a0 : ByteArray) (r : ByteArray) (w : World) (hG : Go.Proofs.YtkijneohhilboaaDoor.POT.Tabs w) (h : float11_whole.f k a0 = some r) :
  Calls Tryd.prog 39 #[.string a0] w fun e w' => e = .returned (.string r) ∧ Below w.heap.size w w' := by
 have HG := AM hG
 clear hG
 have HB := AM (Below.refl w.heap.size w)
 have H : ((strings_Split.f a0 (⟨#[58]⟩ : ByteArray)).bind fun t157 => (if 0 < (t157.length : Int) then (if 1 ≤ (t157.length : Int) then ((some (t157.drop 1 : List ByteArray)).bind fun y161 => (float11_whole.l0 k (rdOf ByteArray.empty t157 0) y161 (y161.length : Int) 0)) else (none)) else (none))) = some r := h
 clear h
 replace H := Option.bind_eq_some_iff.mp H
 obtain ⟨t157, A20, H⟩ := H
 replace H : (if 0 < (t157.length : Int) then (if 1 ≤ (t157.length : Int) then ((some (t157.drop 1 : List ByteArray)).bind fun y161 => (float11_whole.l0 k (rdOf ByteArray.empty t157 0) y161 (y161.length : Int) 0)) else (none)) else (none)) = some r := H
 have A2 := AM A20
 clear A20
 by_cases c3 : 0 < (t157.length : Int)
 ·rw [if_pos c3] at H
  have c3b0 : decide (0 < (t157.length : Int)) = true := decide_eq_true c3
  have c3b1 : decide (0 < t157.length) = true := decide_eq_true (by omega)
  clear c3
  by_cases c4 : 1 ≤ (t157.length : Int)
  ·rw [if_pos c4] at H
   have c4b0 := eq_true c4
   have c4b1 : decide (1 ≤ (t157.length : Int)) = true := decide_eq_true c4
   clear c4
   obtain ⟨y161, hy161⟩ : ∃ y_ : List ByteArray, y_ = (t157.drop 1) := ⟨_, rfl⟩
   replace H : (float11_whole.l0 k (rdOf ByteArray.empty t157 0) y161 (y161.length : Int) 0) = some r := by first | (rw [hy161]; with_reducible exact H) | (have H2_ := (Option.bind_some _ _).symm.trans H; rw [hy161]; with_reducible exact H2_) | (have H2_ := (Option.bind_some _ _).symm.trans H; with_reducible exact H2_) | with_reducible exact H | (rw [hy161]; exact H) | exact H
   have Ny161 := AM hy161
   clear hy161
   have H' := AM H
   clear H
   go_enter Tryd.func39, Tryd.ntmps39
   go_wp2_with (first | ((with_reducible refine gate_callee (f := 26) rfl ?_); refine goesL_ (some 10) rfl rfl Tryd.func26 (by kernel_rfl) rfl #[.string a0, .string (⟨#[58]⟩ : ByteArray)] rfl am ?_; (with_reducible refine (strings_Split.calls a0 (⟨#[58]⟩ : ByteArray) t157 _ ?side1 A2.out).mono ?_); (case side1 => exact Go.Proofs.YtkijneohhilboaaDoor.POT.Tabs_below HG.out bl); rintro e w5 ⟨v158, rfl, ho0, hb⟩; refine ⟨_, rfl, ?_⟩; have HO159 := AM (Kd.R_lower ho0 (below_size bl)); replace HB := AM (below_step bl hb); (try clear hb); (try clear ho0); obtain ⟨Ao6, co6, eo6⟩ := Kd.R_slice HO159.out; subst eo6; have p160 : 0 ≤ (0 : Int) := (by omega); have q160 : 0 < (t157.length : Int) := od; obtain ⟨ad160, e160, hx160_0⟩ := Kd.at_string (Kd.R_reads' HO159.out).2.2 0 p160 q160; cases e160; have qi160 : (0 < t157.length) = True := eq_true (by omega); (try rw [show ((0 : Int)).toNat = 0 from rfl] at hx160_0); (try rw [Addr.add_zero'] at hx160_0); replace p160 := eq_true p160; replace q160 := eq_true q160; have q7 : (1 : Int) ≤ ((t157.length : Int) : Int) := od; obtain ⟨i07, hi07, _, hsz7, _⟩ := info_parts info9; have hroom7 : t157.length ≤ co6 := (Kd.R_reads' HO159.out).2.1; have hC7 : Kd.C Kd.string _ (some ad160) t157.length t157 := (Kd.R_reads' HO159.out).2.2; have hcut7 := cut_from (P := Tryd.prog) 34 9 .i64 Tryd.underlying34 hi07 1 hsz7 (some ad160) t157.length co6 1 (by omega) q7; have hr7 := Kd.C_drop (m := (1 : Int).toNat) (c := co6) hC7 (by omega) hroom7; obtain ⟨A7, hA7⟩ : ∃ A1, A1 = (if co6 = (1 : Int).toNat then (some ad160) else ((some ad160) : Option Addr).map (·.add ((1 : Int).toNat * 1))) := ⟨_, rfl⟩; obtain ⟨c7, hc7⟩ : ∃ c1, c1 = co6 - (1 : Int).toNat := ⟨_, rfl⟩; have hy7 : y161.length = t157.length - (1 : Int).toNat := (by rw [Ny161.out, qD] <;> omega); rw [show (t157).drop (1 : Int).toNat = y161 from Ny161.out.symm] at hr7; replace hr7 : Kd.C Kd.string _ A7 y161.length y161 := (by rw [hA7]; exact hr7); rw [← hy7, ← hA7, ← hc7] at hcut7; have HR164 := AM hr7; have HC164 := AM (show y161.length ≤ c7 from by rw [hy7, hc7]; exact Nat.sub_le_sub_right hroom7 _); clear hr7 hC7 hroom7 hi07 hsz7 hc7; have KY7 := AM hy7; have KA7 := AM hA7; clear hy7 hA7; have KL7 := AM (show 1 ≤ t157.length from by omega); replace q7 := eq_true q7))
   go_loopg [4, 17] k (fun kq v4 v17 w' => ∃ (x4_1 : ByteArray) (x17_1 : Int), v4 = .string x4_1 ∧ v17 = .int .i64 x17_1 ∧ Aside0 (float11_whole.l0 kq x4_1 y161 (y161.length : Int) x17_1 = some r) ∧ Aside0 (kq ≤ k) ∧ Aside0 (Kd.C Kd.string w' A7 y161.length y161) ∧ Aside0 (Below w.heap.size w w'))
   case atStart => exact ⟨(rdOf ByteArray.empty t157 0), (0), rq, rq, H', ⟨Nat.le_refl _⟩, ⟨by repeat (first | (with_reducible exact HR164.out) | (with_reducible refine Kd.C_alloc ?_ _) | (with_reducible refine Kd.C_drewN ?_ _) | (with_reducible refine Kd.C_drew ?_) | exact HR164.out)⟩, ⟨bl⟩⟩
   case round =>
    clear H'; try clear c1; try clear c3; try clear c3b0; try clear c3b1; try clear c4; try clear c4b0; try clear c4b1; try clear c7; try clear q7; try clear hx160_0; try clear p160; try clear q160; try clear q7
    obtain ⟨x4_1, x17_1, rfl, rfl, HA, HK1, HR164, HB⟩ := hrel; cases gk with
    | zero => exact absurd HA.out (by simp [float11_whole.l0])
    | succ k1 =>
     have H := HA.out; clear HA; simp only [float11_whole.l0] at H; by_cases c8 : x17_1 < (y161.length : Int)
     ·rw [if_pos c8] at H
      have c8b0 : decide (x17_1 < (y161.length : Int)) = true := decide_eq_true c8; clear c8; by_cases c9 : 0 ≤ x17_1
      ·rw [if_pos c9] at H
       have c9b0 : decide (0 ≤ x17_1) = true := decide_eq_true c9; clear c9; by_cases c10 : x17_1 < (y161.length : Int)
       ·rw [if_pos c10] at H
        have c10b0 : decide (x17_1 < (y161.length : Int)) = true := decide_eq_true c10; clear c10; have HC11 := AM H; clear H; have p165 : 0 ≤ (x17_1 : Int) := od; have q165 : x17_1 < (y161.length : Int) := od; obtain ⟨ad165, e165, hx165_0⟩ := Kd.at_string HR164.out x17_1 p165 q165; cases e165; (try replace hx165_0 := (HB.out.cell (World.block_lt_of_cell? w _ hx165_0)).trans hx165_0); replace p165 := eq_true p165; replace q165 := eq_true q165; go_upto_if 23 with (fail)
        go_cut [4] (fun v4 wc => ∃ (kq : Nat) (x4_10 : ByteArray), v4 = .string x4_10 ∧ Aside0 (float11_whole.j1 kq x4_10 (rdOf ByteArray.empty y161 x17_1) y161 (y161.length : Int) x17_1 = some r) ∧ Aside0 (kq ≤ k1) ∧ Aside0 (Kd.C Kd.string wc (some ad165) y161.length y161) ∧ Aside0 (Below w.heap.size w wc))
        case first =>
         have H := HC11.out; clear HC11; by_cases c12 : x17_1 = 0
         ·rw [if_pos c12] at H
          have c12b0 : (x17_1 == 0) = true := beq_iff_eq.mpr c12; have c12b1 : (x17_1 != 0) = false := bne_eq_false_iff_eq.mpr c12; clear c12; (first | rw [c12b0] | (simp only [qi, qj]; rw [c12b0]) | skip); replace H := Option.bind_eq_some_iff.mp H; obtain ⟨t166, A130, H⟩ := H; replace H : (float11_whole.j1 k1 t166 (rdOf ByteArray.empty y161 x17_1) y161 (y161.length : Int) x17_1) = some r := H; have A13 := AM A130; clear A130; have H' := AM H; clear H; go_wp2_with (first | ((with_reducible refine gate_callee (f := 27) rfl ?_); refine goesL_ (some 25) rfl rfl Tryd.func27 (by kernel_rfl) rfl #[.bool false, .string x4_1] rfl am ?_; (with_reducible refine (big_Norm.calls k1 false x4_1 t166 _ A13.out).mono ?_); rintro e w14 ⟨rfl, hb⟩; refine ⟨_, rfl, ?_⟩; have n0_ := AM (Kd.C_below (by repeat (first | (with_reducible exact HR164.out) | (with_reducible refine Kd.C_alloc ?_ _) | (with_reducible refine Kd.C_drewN ?_ _) | (with_reducible refine Kd.C_drew ?_) | exact HR164.out)) hb); have n1_ := AM (below_step bl hb); clear HR164; clear HB; have HR164 := n0_; have HB := n1_; clear n0_ n1_; (try clear hb))); go_meet
          case rel => exact ⟨_, (t166), rq, H', ⟨by have := HK1.out; first | omega | exact Nat.le_refl _⟩, ⟨by repeat (first | (with_reducible exact HR164.out) | (with_reducible refine Kd.C_alloc ?_ _) | (with_reducible refine Kd.C_drewN ?_ _) | (with_reducible refine Kd.C_drew ?_) | exact HR164.out)⟩, ⟨bl⟩⟩
         ·rw [if_neg c12] at H
          have c12b0 : (x17_1 == 0) = false := beq_eq_false_iff_ne.mpr c12; have c12b1 : (x17_1 != 0) = true := bne_iff_ne.mpr c12; (first | rw [c12b0] | (simp only [qi, qj]; rw [c12b0]) | skip); have H' := AM H; clear H; go_wp2; go_meet
          case rel => exact ⟨_, (x4_1), rq, H', ⟨by have := HK1.out; first | omega | exact Nat.le_refl _⟩, ⟨by repeat (first | (with_reducible exact HR164.out) | (with_reducible refine Kd.C_alloc ?_ _) | (with_reducible refine Kd.C_drewN ?_ _) | (with_reducible refine Kd.C_drew ?_) | exact HR164.out)⟩, ⟨bl⟩⟩
        case rest =>
         clear HC11; try clear c1; try clear c3; try clear c3b0; try clear c3b1; try clear c4; try clear c4b0; try clear c4b1; try clear c7; try clear q7; try clear c8; try clear c8b0; try clear c9; try clear c9b0; try clear c10; try clear c10b0; try clear hx160_0; try clear hx165_0; try clear p160; try clear p165; try clear q160; try clear q165; try clear q7
         obtain ⟨kq, x4_10, rfl, HA, HJ10, HR164, HB⟩ := hcut; cases kq with
         | zero => exact absurd HA.out (by simp [float11_whole.j1])
         | succ kj10 =>
          have H := HA.out; clear HA; simp only [float11_whole.j1] at H; have H' := AM H; clear H; go_wp2; go_loopg [7, 28] kj10 (fun kq v7 v28 w' => ∃ (x7_3 : Int) (x28_3 : Int), v7 = .int .i64 x7_3 ∧ v28 = .int .i64 x28_3 ∧ Aside0 (float11_whole.l1 kq x4_10 (rdOf ByteArray.empty y161 x17_1) x7_3 y161 (y161.length : Int) x17_1 ((rdOf ByteArray.empty y161 x17_1).size : Int) x28_3 = some r) ∧ Aside0 (kq ≤ kj10) ∧ Aside0 (Kd.C Kd.string w' (some ad165) y161.length y161) ∧ Aside0 (Below w.heap.size w w'))
          case atStart => exact ⟨(0), (0), rq, rq, H', ⟨Nat.le_refl _⟩, ⟨by repeat (first | (with_reducible exact HR164.out) | (with_reducible refine Kd.C_alloc ?_ _) | (with_reducible refine Kd.C_drewN ?_ _) | (with_reducible refine Kd.C_drew ?_) | exact HR164.out)⟩, ⟨bl⟩⟩
          case round =>
           clear H'; try clear c1; try clear c3; try clear c3b0; try clear c3b1; try clear c4; try clear c4b0; try clear c4b1; try clear c7; try clear q7; try clear c8; try clear c8b0; try clear c9; try clear c9b0; try clear c10; try clear c10b0; try clear hx160_0; try clear hx165_0; try clear p160; try clear p165; try clear q160; try clear q165; try clear q7
           obtain ⟨x7_3, x28_3, rfl, rfl, HA, HK3, HR164, HB⟩ := hrel; cases gk with
           | zero => exact absurd HA.out (by simp [float11_whole.l1])
           | succ k3 =>
            have H := HA.out; clear HA; simp only [float11_whole.l1] at H; by_cases c15 : x28_3 < ((rdOf ByteArray.empty y161 x17_1).size : Int)
            ·rw [if_pos c15] at H
             have c15b0 : decide (x28_3 < ((rdOf ByteArray.empty y161 x17_1).size : Int)) = true := decide_eq_true c15; clear c15; by_cases c16 : 0 ≤ x28_3
             ·rw [if_pos c16] at H
              have c16b0 : decide (0 ≤ x28_3) = true := decide_eq_true c16; clear c16; by_cases c17 : x28_3 < ((rdOf ByteArray.empty y161 x17_1).size : Int)
              ·rw [if_pos c17] at H
               have c17b0 : decide (x28_3 < ((rdOf ByteArray.empty y161 x17_1).size : Int)) = true := decide_eq_true c17; clear c17; have H' := AM H; clear H; have p18 : 0 ≤ (x28_3 : Int) := od; have q18 : x28_3 < ((rdOf ByteArray.empty y161 x17_1).size : Int) := od; have hx18 := bt_at (rdOf ByteArray.empty y161 x17_1) x28_3; replace p18 := eq_true p18; replace q18 := eq_true q18; go_wp2; go_roundg k3
               case measure => have := HK1.out; have := HJ10.out; have := HK3.out; omega
               case rel => exact ⟨(wrap64 ((wrap64 (10 * x7_3)) + (((bt (rdOf ByteArray.empty y161 x17_1) x28_3) - 48) % 256))), (wrap64 (x28_3 + 1)), rq, rq, H', ⟨by have := HK1.out; have := HJ10.out; have := HK3.out; omega⟩, ⟨by repeat (first | (with_reducible exact HR164.out) | (with_reducible refine Kd.C_alloc ?_ _) | (with_reducible refine Kd.C_drewN ?_ _) | (with_reducible refine Kd.C_drew ?_) | exact HR164.out)⟩, ⟨bl⟩⟩
              ·rw [if_neg c17] at H
               exact absurd H (by simp)
             ·rw [if_neg c16] at H
              exact absurd H (by simp)
            ·rw [if_neg c15] at H
             have c15b0 : decide (x28_3 < ((rdOf ByteArray.empty y161 x17_1).size : Int)) = false := decide_eq_false c15; clear c15; replace H := Option.bind_eq_some_iff.mp H; obtain ⟨t167, A190, H⟩ := H; replace H : (float11_whole.l0 k3 t167 y161 (y161.length : Int) (wrap64 (x17_1 + 1))) = some r := H; have A19 := AM A190; clear A190; have H' := AM H; clear H; go_wp2_with (first | ((with_reducible refine gate_callee (f := 28) rfl ?_); refine goesL_ (some 42) rfl rfl Tryd.func28 (by kernel_rfl) rfl #[.string x4_10, .int .i64 60, .int .i64 x7_3] rfl am ?_; (with_reducible refine (big_MulAdd.calls k3 x4_10 60 x7_3 t167 _ ?side1 A19.out).mono ?_); (case side1 => exact Go.Proofs.YtkijneohhilboaaDoor.POT.Tabs_below HG.out bl); rintro e w20 ⟨rfl, hb⟩; refine ⟨_, rfl, ?_⟩; have n0_ := AM (Kd.C_below (by repeat (first | (with_reducible exact HR164.out) | (with_reducible refine Kd.C_alloc ?_ _) | (with_reducible refine Kd.C_drewN ?_ _) | (with_reducible refine Kd.C_drew ?_) | exact HR164.out)) hb); have n1_ := AM (below_step bl hb); clear HR164; clear HB; have HR164 := n0_; have HB := n1_; clear n0_ n1_; (try clear hb))); go_roundg k3
             case measure => have := HK1.out; have := HJ10.out; have := HK3.out; omega
             case rel => exact ⟨(t167), (wrap64 (x17_1 + 1)), rq, rq, H', ⟨by have := HK1.out; have := HJ10.out; have := HK3.out; omega⟩, ⟨by repeat (first | (with_reducible exact HR164.out) | (with_reducible refine Kd.C_alloc ?_ _) | (with_reducible refine Kd.C_drewN ?_ _) | (with_reducible refine Kd.C_drew ?_) | exact HR164.out)⟩, ⟨bl⟩⟩
       ·rw [if_neg c10] at H
        exact absurd H (by simp)
      ·rw [if_neg c9] at H
       exact absurd H (by simp)
     ·rw [if_neg c8] at H
      have c8b0 : decide (x17_1 < (y161.length : Int)) = false := decide_eq_false c8; clear c8; obtain rfl := Option.some.inj H; go_wp2; go_ret
      exact ⟨ew, bl⟩
  ·rw [if_neg c4] at H
   exact absurd H (by simp)
 ·rw [if_neg c3] at H
  exact absurd H (by simp)

/-! ### float11_Of: function 19 -/
def float11_Of.f (k : Nat) (a0 : ByteArray) : Option (Int × Bool × ByteArray × ByteArray × Bool) := (float11_read.f k a0).bind fun bt169 => (if bt169.1 = 0 then (some (0, false, (⟨#[]⟩ : ByteArray), (⟨#[]⟩ : ByteArray), false)) else (if bt169.1 = 4 then (some (1, bt169.2.1, (⟨#[]⟩ : ByteArray), (⟨#[]⟩ : ByteArray), true)) else (if bt169.1 = 5 then (some (2, false, (⟨#[]⟩ : ByteArray), (⟨#[]⟩ : ByteArray), true)) else ((float11_Of_1.f bt169.2.2.1).bind fun t175 => ((float11_whole.f k t175).bind fun t176 => ((float11_Of_1.f bt169.2.2.2.1).bind fun t177 => ((dec_Make.f k bt169.2.1 t176 t177 bt169.2.2.2.2).bind fun bt178 => (some (bt178.1, bt178.2.1, bt178.2.2.1, bt178.2.2.2.1, bt178.2.2.2.2)))))))))
theorem float11_Of.mono : ∀ a0 k, LeO (float11_Of.f k a0) (float11_Of.f (k + 1) a0) := by
 intro a0 k
 unfold float11_Of.f
 repeat' first | (with_reducible exact dec_Make.mono _ _ _ _ _) | (with_reducible exact float11_read.mono _ _) | (with_reducible exact float11_whole.mono _ _) | (with_reducible exact LeO.refl _) | (with_reducible exact LeO.none _) | (with_reducible refine LeO.ite ?_ ?_) | (with_reducible refine LeO.bind ?_ (fun _ => ?_)) | exact dec_Make.mono _ _ _ _ _ | exact float11_read.mono _ _ | exact float11_whole.mono _ _ | exact LeO.none _ | refine LeO.ite ?_ ?_ | refine LeO.bind ?_ (fun _ => ?_)
def float11_Of.T10 : Bool × List (List Nat × List Nat) := (true, [([], []), ([0], [0]), ([], []), ([], []), ([3], [3]), ([2, 4], [2, 4]), ([5, 5], [5]), ([], []), ([], []), ([8], [8]), ([7, 9, 6], [7, 9]), ([], []), ([11], [11]), ([1, 6, 10, 12, 10], [1, 6, 10, 12]), ([13], [13]), ([13], [13]), ([14, 13, 0, 1, 2, 3, 4, 5, 6, 7, 8, 9, 10, 11, 12, 13, 14, 15], [14]), ([15, 16, 0, 1, 2, 3, 4, 5, 6, 7, 8, 9, 10, 11, 12, 13, 14, 15, 16], [15])])
def float11_Of.B10 : List Nat := [0, 1, 0, 0, 8, 28, 60, 0, 0, 256, 1020, 0, 2048, 8191, 16383, 16383, 65535, 131071]
theorem float11_Of.tab10 : rtab .any (opsOf Tryd.f19 10) = float11_Of.T10 := by kernel_rfl
theorem float11_Of.bits10 : waitsOk float11_Of.T10.2 float11_Of.B10 = true := by kernel_rfl
set_option maxHeartbeats 8000000 in
set_option maxRecDepth 100000 in
theorem float11_Of.calls (k : Nat) (a0 : ByteArray) (r1 : Int) (r2 : Bool) (r3 : ByteArray) (r4 : ByteArray) (r5 : Bool) (w : World) (hG : Go.Proofs.YtkijneohhilboaaDoor.POT.Tabs w) (h : float11_Of.f k a0 = some (r1, r2, r3, r4, r5)) :
  Calls Tryd.prog 19 #[.string a0] w fun e w' => e = .returned (.tuple #[.agg #[.int .i64 r1, .bool r2, .string r3, .string r4], .bool r5]) ∧ Below w.heap.size w w' := by
 have hu43 := Tryd.underlying43
 have hu58 := Tryd.underlying58
 have HG := AM hG
 clear hG
 have HB := AM (Below.refl w.heap.size w)
 have H : ((float11_read.f k a0).bind fun bt169 => (if bt169.1 = 0 then (some (0, false, (⟨#[]⟩ : ByteArray), (⟨#[]⟩ : ByteArray), false)) else (if bt169.1 = 4 then (some (1, bt169.2.1, (⟨#[]⟩ : ByteArray), (⟨#[]⟩ : ByteArray), true)) else (if bt169.1 = 5 then (some (2, false, (⟨#[]⟩ : ByteArray), (⟨#[]⟩ : ByteArray), true)) else ((float11_Of_1.f bt169.2.2.1).bind fun t175 => ((float11_whole.f k t175).bind fun t176 => ((float11_Of_1.f bt169.2.2.2.1).bind fun t177 => ((dec_Make.f k bt169.2.1 t176 t177 bt169.2.2.2.2).bind fun bt178 => (some (bt178.1, bt178.2.1, bt178.2.2.1, bt178.2.2.2.1, bt178.2.2.2.2)))))))))) = some (r1, r2, r3, r4, r5) := h
 clear h
 replace H := Option.bind_eq_some_iff.mp H
 obtain ⟨⟨t169, t170, t171, t172, t173⟩, A20, H⟩ := H
 replace H : (if t169 = 0 then (some (0, false, (⟨#[]⟩ : ByteArray), (⟨#[]⟩ : ByteArray), false)) else (if t169 = 4 then (some (1, t170, (⟨#[]⟩ : ByteArray), (⟨#[]⟩ : ByteArray), true)) else (if t169 = 5 then (some (2, false, (⟨#[]⟩ : ByteArray), (⟨#[]⟩ : ByteArray), true)) else ((float11_Of_1.f t171).bind fun t175 => ((float11_whole.f k t175).bind fun t176 => ((float11_Of_1.f t172).bind fun t177 => ((dec_Make.f k t170 t176 t177 t173).bind fun bt178 => (some (bt178.1, bt178.2.1, bt178.2.2.1, bt178.2.2.2.1, bt178.2.2.2.2))))))))) = some (r1, r2, r3, r4, r5) := H
 have A2 := AM A20
 clear A20
 by_cases c3 : t169 = 0
 ·rw [if_pos c3] at H
  have c3b0 : (t169 == 0) = true := beq_iff_eq.mpr c3
  have c3b1 : (t169 != 0) = false := bne_eq_false_iff_eq.mpr c3
  clear c3
  simp only [Option.some.injEq, Prod.mk.injEq] at H
  obtain ⟨rfl, rfl, rfl, rfl, rfl⟩ := H
  go_enter Tryd.func19, Tryd.ntmps19
  go_wp2_with (first | ((with_reducible refine gate_dst (N := 2) rfl ?_); refine box_event ?hg (N := 2) ?hd (cs := #[.int .i64 0, .bool false, .string (⟨#[]⟩ : ByteArray), .string (⟨#[]⟩ : ByteArray)]) (t := 43) ?hr ?_; (case hd => rfl); (case hg => rfl); (case hr => first | (go_simp; done) | (go_simp; rfl)); intro gb168 hg w4 hbox hb; have GW168 := gq (w := w) hg; have GE168 := GW168; replace HB := AM (below_step bl hb); have BK168 := AM (hbox); clear hb hbox hg) | ((with_reducible refine gate_callee (f := 36) rfl ?_); refine goesL_ (some 7) rfl rfl Tryd.func36 (by kernel_rfl) rfl #[.string a0] rfl am ?_; (with_reducible refine (float11_read.calls k a0 t169 t170 t171 t172 t173 _ A2.out).mono ?_); rintro e w5 ⟨rfl, hb⟩; refine ⟨_, rfl, ?_⟩; replace BK168 := AM (blk_below (g := gb168) (o := .cells #[.int .i64 0, .bool false, .string (⟨#[]⟩ : ByteArray), .string (⟨#[]⟩ : ByteArray)] 43 (0, 0)) bk hb); replace HB := AM (below_step bl hb); (try clear hb)) | ((with_reducible refine gate_dst (N := 4) rfl ?_); refine box_event ?hg (N := 4) ?hd (cs := #[.int .i64 0, .bool false, .string (⟨#[]⟩ : ByteArray), .string (⟨#[]⟩ : ByteArray), .string (⟨#[]⟩ : ByteArray)]) (t := 58) ?hr ?_; (case hd => rfl); (case hg => rfl); (case hr => first | (go_simp; done) | (go_simp; rfl)); intro gb174 hg w6 hbox hb; have NB168_174 := AM ((by rw [hg]; exact Nat.ne_of_lt (blk_lt (g := gb168) (o := .cells #[.int .i64 0, .bool false, .string (⟨#[]⟩ : ByteArray), .string (⟨#[]⟩ : ByteArray)] 43 (0, 0)) bk) : gb168 ≠ gb174)); have NB174_168 := AM (Ne.symm NB168_174.out); have GW174 := gq (w := w) hg; have GE174 := GW174; replace BK168 := AM (blk_below (g := gb168) (o := .cells #[.int .i64 0, .bool false, .string (⟨#[]⟩ : ByteArray), .string (⟨#[]⟩ : ByteArray)] 43 (0, 0)) bk hb); replace HB := AM (below_step bl hb); have BK174 := AM (hbox); clear hb hbox hg; have hnb7 := NB174_168.out; have hnc7 := NB168_174.out; obtain ⟨hcz8_0, hcz8_1, hcz8_2, hcz8_3, hcz8_4, hfz8_0, hfz8_1, hfz8_2, hfz8_3, hfz8_4⟩ := cz5 BK174.out; obtain ⟨hcz9_0, hcz9_1, hcz9_2, hcz9_3, hfz9_0, hfz9_1, hfz9_2, hfz9_3⟩ := cz4 BK168.out))
  refine bodyPost_ret (results_ct rfl _ _ gb168 43 #[.int .i64 0, .bool false, .string (⟨#[]⟩ : ByteArray), .string (⟨#[]⟩ : ByteArray)] (0, 0) _ rfl bk Tryd.underlying43 rfl (by kernel_rfl)) rfl ?_
  exact ⟨ew, bl⟩
 ·rw [if_neg c3] at H
  have c3b0 : (t169 == 0) = false := beq_eq_false_iff_ne.mpr c3
  have c3b1 : (t169 != 0) = true := bne_iff_ne.mpr c3
  by_cases c10 : t169 = 4
  ·rw [if_pos c10] at H
   have c10b0 : (t169 == 4) = true := beq_iff_eq.mpr c10
   have c10b1 : (t169 != 4) = false := bne_eq_false_iff_eq.mpr c10
   clear c10
   simp only [Option.some.injEq, Prod.mk.injEq] at H
   obtain ⟨rfl, rfl, rfl, rfl, rfl⟩ := H
   go_enter Tryd.func19, Tryd.ntmps19
   go_wp2_with (first | ((with_reducible refine gate_dst (N := 2) rfl ?_); refine box_event ?hg (N := 2) ?hd (cs := #[.int .i64 0, .bool false, .string (⟨#[]⟩ : ByteArray), .string (⟨#[]⟩ : ByteArray)]) (t := 43) ?hr ?_; (case hd => rfl); (case hg => rfl); (case hr => first | (go_simp; done) | (go_simp; rfl)); intro gb168 hg w11 hbox hb; have GW168 := gq (w := w) hg; have GE168 := GW168; replace HB := AM (below_step bl hb); have BK168 := AM (hbox); clear hb hbox hg) | ((with_reducible refine gate_callee (f := 36) rfl ?_); refine goesL_ (some 7) rfl rfl Tryd.func36 (by kernel_rfl) rfl #[.string a0] rfl am ?_; (with_reducible refine (float11_read.calls k a0 t169 t170 t171 t172 t173 _ A2.out).mono ?_); rintro e w12 ⟨rfl, hb⟩; refine ⟨_, rfl, ?_⟩; replace BK168 := AM (blk_below (g := gb168) (o := .cells #[.int .i64 0, .bool false, .string (⟨#[]⟩ : ByteArray), .string (⟨#[]⟩ : ByteArray)] 43 (0, 0)) bk hb); replace HB := AM (below_step bl hb); (try clear hb)) | ((with_reducible refine gate_dst (N := 4) rfl ?_); refine box_event ?hg (N := 4) ?hd (cs := #[.int .i64 0, .bool false, .string (⟨#[]⟩ : ByteArray), .string (⟨#[]⟩ : ByteArray), .string (⟨#[]⟩ : ByteArray)]) (t := 58) ?hr ?_; (case hd => rfl); (case hg => rfl); (case hr => first | (go_simp; done) | (go_simp; rfl)); intro gb174 hg w13 hbox hb; have NB168_174 := AM ((by rw [hg]; exact Nat.ne_of_lt (blk_lt (g := gb168) (o := .cells #[.int .i64 0, .bool false, .string (⟨#[]⟩ : ByteArray), .string (⟨#[]⟩ : ByteArray)] 43 (0, 0)) bk) : gb168 ≠ gb174)); have NB174_168 := AM (Ne.symm NB168_174.out); have GW174 := gq (w := w) hg; have GE174 := GW174; replace BK168 := AM (blk_below (g := gb168) (o := .cells #[.int .i64 0, .bool false, .string (⟨#[]⟩ : ByteArray), .string (⟨#[]⟩ : ByteArray)] 43 (0, 0)) bk hb); replace HB := AM (below_step bl hb); have BK174 := AM (hbox); clear hb hbox hg; have hnb14 := NB174_168.out; have hnc14 := NB168_174.out; obtain ⟨hcz15_0, hcz15_1, hcz15_2, hcz15_3, hcz15_4, hfz15_0, hfz15_1, hfz15_2, hfz15_3, hfz15_4⟩ := cz5 BK174.out; obtain ⟨hcz16_0, hcz16_1, hcz16_2, hcz16_3, hfz16_0, hfz16_1, hfz16_2, hfz16_3⟩ := cz4 BK168.out))
   refine bodyPost_ret (results_ct rfl _ _ gb168 43 #[.int .i64 1, .bool t170, .string (⟨#[]⟩ : ByteArray), .string (⟨#[]⟩ : ByteArray)] (0, 0) _ rfl bk Tryd.underlying43 rfl (by kernel_rfl)) rfl ?_
   exact ⟨ew, bl⟩
  ·rw [if_neg c10] at H
   have c10b0 : (t169 == 4) = false := beq_eq_false_iff_ne.mpr c10
   have c10b1 : (t169 != 4) = true := bne_iff_ne.mpr c10
   by_cases c17 : t169 = 5
   ·rw [if_pos c17] at H
    have c17b0 : (t169 == 5) = true := beq_iff_eq.mpr c17; have c17b1 : (t169 != 5) = false := bne_eq_false_iff_eq.mpr c17; clear c17; simp only [Option.some.injEq, Prod.mk.injEq] at H; obtain ⟨rfl, rfl, rfl, rfl, rfl⟩ := H; go_enter Tryd.func19, Tryd.ntmps19
    go_wp2_with (first | ((with_reducible refine gate_dst (N := 2) rfl ?_); refine box_event ?hg (N := 2) ?hd (cs := #[.int .i64 0, .bool false, .string (⟨#[]⟩ : ByteArray), .string (⟨#[]⟩ : ByteArray)]) (t := 43) ?hr ?_; (case hd => rfl); (case hg => rfl); (case hr => first | (go_simp; done) | (go_simp; rfl)); intro gb168 hg w18 hbox hb; have GW168 := gq (w := w) hg; have GE168 := GW168; replace HB := AM (below_step bl hb); have BK168 := AM (hbox); clear hb hbox hg) | ((with_reducible refine gate_callee (f := 36) rfl ?_); refine goesL_ (some 7) rfl rfl Tryd.func36 (by kernel_rfl) rfl #[.string a0] rfl am ?_; (with_reducible refine (float11_read.calls k a0 t169 t170 t171 t172 t173 _ A2.out).mono ?_); rintro e w19 ⟨rfl, hb⟩; refine ⟨_, rfl, ?_⟩; replace BK168 := AM (blk_below (g := gb168) (o := .cells #[.int .i64 0, .bool false, .string (⟨#[]⟩ : ByteArray), .string (⟨#[]⟩ : ByteArray)] 43 (0, 0)) bk hb); replace HB := AM (below_step bl hb); (try clear hb)) | ((with_reducible refine gate_dst (N := 4) rfl ?_); refine box_event ?hg (N := 4) ?hd (cs := #[.int .i64 0, .bool false, .string (⟨#[]⟩ : ByteArray), .string (⟨#[]⟩ : ByteArray), .string (⟨#[]⟩ : ByteArray)]) (t := 58) ?hr ?_; (case hd => rfl); (case hg => rfl); (case hr => first | (go_simp; done) | (go_simp; rfl)); intro gb174 hg w20 hbox hb; have NB168_174 := AM ((by rw [hg]; exact Nat.ne_of_lt (blk_lt (g := gb168) (o := .cells #[.int .i64 0, .bool false, .string (⟨#[]⟩ : ByteArray), .string (⟨#[]⟩ : ByteArray)] 43 (0, 0)) bk) : gb168 ≠ gb174)); have NB174_168 := AM (Ne.symm NB168_174.out); have GW174 := gq (w := w) hg; have GE174 := GW174; replace BK168 := AM (blk_below (g := gb168) (o := .cells #[.int .i64 0, .bool false, .string (⟨#[]⟩ : ByteArray), .string (⟨#[]⟩ : ByteArray)] 43 (0, 0)) bk hb); replace HB := AM (below_step bl hb); have BK174 := AM (hbox); clear hb hbox hg; have hnb21 := NB174_168.out; have hnc21 := NB168_174.out; obtain ⟨hcz22_0, hcz22_1, hcz22_2, hcz22_3, hcz22_4, hfz22_0, hfz22_1, hfz22_2, hfz22_3, hfz22_4⟩ := cz5 BK174.out; obtain ⟨hcz23_0, hcz23_1, hcz23_2, hcz23_3, hfz23_0, hfz23_1, hfz23_2, hfz23_3⟩ := cz4 BK168.out))
    refine bodyPost_ret (results_ct rfl _ _ gb168 43 #[.int .i64 2, .bool false, .string (⟨#[]⟩ : ByteArray), .string (⟨#[]⟩ : ByteArray)] (0, 0) _ rfl bk Tryd.underlying43 rfl (by kernel_rfl)) rfl ?_
    exact ⟨ew, bl⟩
   ·rw [if_neg c17] at H
    have c17b0 : (t169 == 5) = false := beq_eq_false_iff_ne.mpr c17; have c17b1 : (t169 != 5) = true := bne_iff_ne.mpr c17; replace H := Option.bind_eq_some_iff.mp H; obtain ⟨t175, A240, H⟩ := H; replace H : ((float11_whole.f k t175).bind fun t176 => ((float11_Of_1.f t172).bind fun t177 => ((dec_Make.f k t170 t176 t177 t173).bind fun bt178 => (some (bt178.1, bt178.2.1, bt178.2.2.1, bt178.2.2.2.1, bt178.2.2.2.2))))) = some (r1, r2, r3, r4, r5) := H; have A24 := AM A240; clear A240; replace H := Option.bind_eq_some_iff.mp H; obtain ⟨t176, A250, H⟩ := H; replace H : ((float11_Of_1.f t172).bind fun t177 => ((dec_Make.f k t170 t176 t177 t173).bind fun bt178 => (some (bt178.1, bt178.2.1, bt178.2.2.1, bt178.2.2.2.1, bt178.2.2.2.2)))) = some (r1, r2, r3, r4, r5) := H; have A25 := AM A250; clear A250; replace H := Option.bind_eq_some_iff.mp H; obtain ⟨t177, A260, H⟩ := H; replace H : ((dec_Make.f k t170 t176 t177 t173).bind fun bt178 => (some (bt178.1, bt178.2.1, bt178.2.2.1, bt178.2.2.2.1, bt178.2.2.2.2))) = some (r1, r2, r3, r4, r5) := H; have A26 := AM A260; clear A260; replace H := Option.bind_eq_some_iff.mp H; obtain ⟨⟨t178, t179, t180, t181, t182⟩, A270, H⟩ := H; replace H : (some (t178, t179, t180, t181, t182)) = some (r1, r2, r3, r4, r5) := H; have A27 := AM A270; clear A270; simp only [Option.some.injEq, Prod.mk.injEq] at H; obtain ⟨rfl, rfl, rfl, rfl, rfl⟩ := H; go_enter Tryd.func19, Tryd.ntmps19
    try go_wp2_with (first | ((with_reducible refine gate_dst (N := 2) rfl ?_); refine box_event ?hg (N := 2) ?hd (cs := #[.int .i64 0, .bool false, .string (⟨#[]⟩ : ByteArray), .string (⟨#[]⟩ : ByteArray)]) (t := 43) ?hr ?_; (case hd => rfl); (case hg => rfl); (case hr => first | (go_simp; done) | (go_simp; rfl)); intro gb168 hg w28 hbox hb; have GW168 := gq (w := w) hg; have GE168 := GW168; replace HB := AM (below_step bl hb); have BK168 := AM (hbox); clear hb hbox hg) | ((with_reducible refine gate_callee (f := 36) rfl ?_); refine goesL_ (some 7) rfl rfl Tryd.func36 (by kernel_rfl) rfl #[.string a0] rfl am ?_; (with_reducible refine (float11_read.calls k a0 t169 t170 t171 t172 t173 _ A2.out).mono ?_); rintro e w29 ⟨rfl, hb⟩; refine ⟨_, rfl, ?_⟩; replace BK168 := AM (blk_below (g := gb168) (o := .cells #[.int .i64 0, .bool false, .string (⟨#[]⟩ : ByteArray), .string (⟨#[]⟩ : ByteArray)] 43 (0, 0)) bk hb); replace HB := AM (below_step bl hb); (try clear hb)) | ((with_reducible refine gate_dst (N := 4) rfl ?_); refine box_event ?hg (N := 4) ?hd (cs := #[.int .i64 0, .bool false, .string (⟨#[]⟩ : ByteArray), .string (⟨#[]⟩ : ByteArray), .string (⟨#[]⟩ : ByteArray)]) (t := 58) ?hr ?_; (case hd => rfl); (case hg => rfl); (case hr => first | (go_simp; done) | (go_simp; rfl)); intro gb174 hg w30 hbox hb; have NB168_174 := AM ((by rw [hg]; exact Nat.ne_of_lt (blk_lt (g := gb168) (o := .cells #[.int .i64 0, .bool false, .string (⟨#[]⟩ : ByteArray), .string (⟨#[]⟩ : ByteArray)] 43 (0, 0)) bk) : gb168 ≠ gb174)); have NB174_168 := AM (Ne.symm NB168_174.out); have GW174 := gq (w := w) hg; have GE174 := GW174; replace BK168 := AM (blk_below (g := gb168) (o := .cells #[.int .i64 0, .bool false, .string (⟨#[]⟩ : ByteArray), .string (⟨#[]⟩ : ByteArray)] 43 (0, 0)) bk hb); replace HB := AM (below_step bl hb); have BK174 := AM (hbox); clear hb hbox hg; have hnb31 := NB174_168.out; have hnc31 := NB168_174.out; obtain ⟨hcz32_0, hcz32_1, hcz32_2, hcz32_3, hcz32_4, hfz32_0, hfz32_1, hfz32_2, hfz32_3, hfz32_4⟩ := cz5 BK174.out))
    have n0_ : Aside0 ((((((w30.setCell ⟨gb174, 0, none⟩ (.int .i64 t169)).setCell ⟨gb174, 1, none⟩ (.bool t170)).setCell ⟨gb174, 2, none⟩ (.string t171)).setCell ⟨gb174, 3, none⟩ (.string t172)).setCell ⟨gb174, 4, none⟩ (.string t173)).heap[gb168]? = some (.cells #[.int .i64 0, .bool false, .string (⟨#[]⟩ : ByteArray), .string (⟨#[]⟩ : ByteArray)] 43 (0, 0))) := ⟨by (with_reducible repeat (first | refine vN ?_ _ | refine vD ?_ | refine vA ?_ _)); refine blk_far ?_ NB168_174.out _; (with_reducible repeat (first | refine vN ?_ _ | refine vD ?_ | refine vA ?_ _)); refine blk_far ?_ NB168_174.out _; (with_reducible repeat (first | refine vN ?_ _ | refine vD ?_ | refine vA ?_ _)); refine blk_far ?_ NB168_174.out _; (with_reducible repeat (first | refine vN ?_ _ | refine vD ?_ | refine vA ?_ _)); refine blk_far ?_ NB168_174.out _; (with_reducible repeat (first | refine vN ?_ _ | refine vD ?_ | refine vA ?_ _)); refine blk_far ?_ NB168_174.out _; (with_reducible repeat (first | refine vN ?_ _ | refine vD ?_ | refine vA ?_ _)); exact BK168.out⟩; have n1_ : Aside0 ((((((w30.setCell ⟨gb174, 0, none⟩ (.int .i64 t169)).setCell ⟨gb174, 1, none⟩ (.bool t170)).setCell ⟨gb174, 2, none⟩ (.string t171)).setCell ⟨gb174, 3, none⟩ (.string t172)).setCell ⟨gb174, 4, none⟩ (.string t173)).heap[gb174]? = some (.cells #[.int .i64 t169, .bool t170, .string t171, .string t172, .string t173] 58 (0, 0))) := ⟨by (with_reducible repeat (first | refine vN ?_ _ | refine vD ?_ | refine vA ?_ _)); refine blk_put (cs := #[.int .i64 t169, .bool t170, .string t171, .string t172, .string (⟨#[]⟩ : ByteArray)]) ?_ 4 _ rfl; (with_reducible repeat (first | refine vN ?_ _ | refine vD ?_ | refine vA ?_ _)); refine blk_put (cs := #[.int .i64 t169, .bool t170, .string t171, .string (⟨#[]⟩ : ByteArray), .string (⟨#[]⟩ : ByteArray)]) ?_ 3 _ rfl; (with_reducible repeat (first | refine vN ?_ _ | refine vD ?_ | refine vA ?_ _)); refine blk_put (cs := #[.int .i64 t169, .bool t170, .string (⟨#[]⟩ : ByteArray), .string (⟨#[]⟩ : ByteArray), .string (⟨#[]⟩ : ByteArray)]) ?_ 2 _ rfl; (with_reducible repeat (first | refine vN ?_ _ | refine vD ?_ | refine vA ?_ _)); refine blk_put (cs := #[.int .i64 t169, .bool false, .string (⟨#[]⟩ : ByteArray), .string (⟨#[]⟩ : ByteArray), .string (⟨#[]⟩ : ByteArray)]) ?_ 1 _ rfl; (with_reducible repeat (first | refine vN ?_ _ | refine vD ?_ | refine vA ?_ _)); refine blk_put (cs := #[.int .i64 0, .bool false, .string (⟨#[]⟩ : ByteArray), .string (⟨#[]⟩ : ByteArray), .string (⟨#[]⟩ : ByteArray)]) ?_ 0 _ rfl; (with_reducible repeat (first | refine vN ?_ _ | refine vD ?_ | refine vA ?_ _)); exact BK174.out⟩
    have n2_ : Aside0 (Below w.heap.size w (((((w30.setCell ⟨gb174, 0, none⟩ (.int .i64 t169)).setCell ⟨gb174, 1, none⟩ (.bool t170)).setCell ⟨gb174, 2, none⟩ (.string t171)).setCell ⟨gb174, 3, none⟩ (.string t172)).setCell ⟨gb174, 4, none⟩ (.string t173))) := ⟨bl⟩; (try clear BK168); (try clear BK174); (try clear HB); generalize (((((w30.setCell ⟨gb174, 0, none⟩ (.int .i64 t169)).setCell ⟨gb174, 1, none⟩ (.bool t170)).setCell ⟨gb174, 2, none⟩ (.string t171)).setCell ⟨gb174, 3, none⟩ (.string t172)).setCell ⟨gb174, 4, none⟩ (.string t173)) = w33 at n0_ n1_ n2_ ⊢; have BK168 := n0_; have BK174 := n1_; have HB := n2_; clear n0_ n1_ n2_; replace BK168 := AM (vD BK168.out); replace BK174 := AM (vD BK174.out); replace HB := AM (wD HB.out); refine start_ (n := 18) (S := fun w' => w'.cell? ⟨gb174, 0, none⟩ = some (.int .i64 t169) ∧ w'.cell? ⟨gb174, 1, none⟩ = some (.bool t170) ∧ w'.cell? ⟨gb174, 2, none⟩ = some (.string t171) ∧ w'.cell? ⟨gb174, 3, none⟩ = some (.string t172) ∧ w'.cell? ⟨gb174, 4, none⟩ = some (.string t173)) (ds := []) #[false, false, false, false, false, false, false, false, false, false, false, false, false, false, false, false, false, false] (by kernel_rfl) rfl rfl ⟨(blk_cell BK174.out 0).trans rfl, (blk_cell BK174.out 1).trans rfl, (blk_cell BK174.out 2).trans rfl, (blk_cell BK174.out 3).trans rfl, (blk_cell BK174.out 4).trans rfl⟩ (fun hHeld => ?_); refine with_tabW float11_Of.tab10 float11_Of.bits10 (fun HT_ HW_ => ?_)
    generalize w33.drew = w34 at BK168 BK174 HB hHeld ⊢; refine pure_ (i := 0) (N := some 21) (v := ?_) (a' := ?_) #[true, false, false, false, false, false, false, false, false, false, false, false, false, false, false, false, false, false] rfl rfl (any_of HT_.out (by kernel_rfl)) (fun _ _ _ h => h) (Or.inl ⟨by rfl, ?_⟩) ?_ ?_; rotate_left
    ·intro w'
     go_simp; with_reducible rfl
    rotate_left
    ·simp only [Act.put, qI, qz, qs, qi, qj]
     rfl
    refine pure_ (i := 2) (N := some 23) (v := ?_) (a' := ?_) #[true, false, true, false, false, false, false, false, false, false, false, false, false, false, false, false, false, false] rfl rfl (any_of HT_.out (by kernel_rfl)) (fun _ _ _ h => h) (Or.inl ⟨by rfl, ?_⟩) ?_ ?_; rotate_left
    ·intro w'
     go_simp; with_reducible rfl
    rotate_left
    ·simp only [Act.put, qI, qz, qs, qi, qj]
     rfl
    refine pure_ (i := 3) (N := some 24) (v := ?_) (a' := ?_) #[true, false, true, true, false, false, false, false, false, false, false, false, false, false, false, false, false, false] rfl rfl (any_of HT_.out (by kernel_rfl)) (fun _ _ _ h => h) (Or.inl ⟨by rfl, ?_⟩) ?_ ?_; rotate_left
    ·intro w'
     go_simp; with_reducible rfl
    rotate_left
    ·simp only [Act.put, qI, qz, qs, qi, qj]
     rfl
    refine pure_ (i := 7) (N := some 28) (v := ?_) (a' := ?_) #[true, false, true, true, false, false, false, true, false, false, false, false, false, false, false, false, false, false] rfl rfl (any_of HT_.out (by kernel_rfl)) (fun _ _ _ h => h) (Or.inl ⟨by rfl, ?_⟩) ?_ ?_; rotate_left
    ·intro w'
     go_simp; with_reducible rfl
    rotate_left
    ·simp only [Act.put, qI, qz, qs, qi, qj]
     rfl
    refine pure_ (i := 8) (N := some 29) (v := ?_) (a' := ?_) #[true, false, true, true, false, false, false, true, true, false, false, false, false, false, false, false, false, false] rfl rfl (any_of HT_.out (by kernel_rfl)) (fun _ _ _ h => h) (Or.inl ⟨by rfl, ?_⟩) ?_ ?_; rotate_left
    ·intro w'
     go_simp; with_reducible rfl
    rotate_left
    ·simp only [Act.put, qI, qz, qs, qi, qj]
     rfl
    refine pure_ (i := 11) (N := some 32) (v := ?_) (a' := ?_) #[true, false, true, true, false, false, false, true, true, false, false, true, false, false, false, false, false, false] rfl rfl (any_of HT_.out (by kernel_rfl)) (fun _ _ _ h => h) (Or.inl ⟨by rfl, ?_⟩) ?_ ?_; rotate_left
    ·intro w'
     go_simp; with_reducible rfl
    rotate_left
    ·simp only [Act.put, qI, qz, qs, qi, qj]
     rfl
    refine take_ (i := 1) (N := some 22) (v := ?_) (a' := ?_) #[true, true, true, true, false, false, false, true, true, false, false, true, false, false, false, false, false, false] rfl rfl (take_ofW HT_.out HW_.out (by kernel_rfl)) (fun _ _ _ h => h) (Or.inl ⟨by rfl, ?_⟩) hHeld ?_ ?_; rotate_left
    ·rintro w' ⟨s0, s1, s2, s3, s4⟩
     go_simp; with_reducible rfl
    rotate_left
    ·simp only [Act.put, qI, qz, qs, qi, qj]
     rfl
    refine take_ (i := 4) (N := some 25) (v := ?_) (a' := ?_) #[true, true, true, true, true, false, false, true, true, false, false, true, false, false, false, false, false, false] rfl rfl (take_ofW HT_.out HW_.out (by kernel_rfl)) (fun _ _ _ h => h) (Or.inl ⟨by rfl, ?_⟩) hHeld ?_ ?_; rotate_left
    ·rintro w' ⟨s0, s1, s2, s3, s4⟩
     go_simp; with_reducible rfl
    rotate_left
    ·simp only [Act.put, qI, qz, qs, qi, qj]
     rfl
    refine take_ (i := 9) (N := some 30) (v := ?_) (a' := ?_) #[true, true, true, true, true, false, false, true, true, true, false, true, false, false, false, false, false, false] rfl rfl (take_ofW HT_.out HW_.out (by kernel_rfl)) (fun _ _ _ h => h) (Or.inl ⟨by rfl, ?_⟩) hHeld ?_ ?_; rotate_left
    ·rintro w' ⟨s0, s1, s2, s3, s4⟩
     go_simp; with_reducible rfl
    rotate_left
    ·simp only [Act.put, qI, qz, qs, qi, qj]
     rfl
    refine take_ (i := 12) (N := some 33) (v := ?_) (a' := ?_) #[true, true, true, true, true, false, false, true, true, true, false, true, true, false, false, false, false, false] rfl rfl (take_ofW HT_.out HW_.out (by kernel_rfl)) (fun _ _ _ h => h) (Or.inl ⟨by rfl, ?_⟩) hHeld ?_ ?_; rotate_left
    ·rintro w' ⟨s0, s1, s2, s3, s4⟩
     go_simp; with_reducible rfl
    rotate_left
    ·simp only [Act.put, qI, qz, qs, qi, qj]
     rfl
    refine one_ (i := 5) (N := some 26) #[true, true, true, true, true, true, false, true, true, true, false, true, true, false, false, false, false, false] rfl rfl (one_of HT_.out (by kernel_rfl)) (by decide) (fun K hK => ?_); refine Go.Proofs.YtkijneohhilboaaDoor.XV.goesT_ Tryd.func37 (by kernel_rfl) rfl #[.string t171] (by rfl) rfl rfl (by rfl) am ?_; with_reducible refine (float11_Of_1.calls t171 t175 _ ?side1 A24.out).mono ?_; (case side1 => exact Go.Proofs.YtkijneohhilboaaDoor.POT.Tabs_below HG.out bl); rintro e w35 ⟨rfl, hb⟩; refine ⟨_, rfl, ?_⟩; replace BK168 := AM (blk_below (g := gb168) (o := .cells #[.int .i64 0, .bool false, .string (⟨#[]⟩ : ByteArray), .string (⟨#[]⟩ : ByteArray)] 43 (0, 0)) bk hb); replace BK174 := AM (blk_below (g := gb174) (o := .cells #[.int .i64 t169, .bool t170, .string t171, .string t172, .string t173] 58 (0, 0)) bk hb); replace HB := AM (below_step bl hb); (try clear hb); refine hK.out _ _ ⟨(blk_cell BK174.out 0).trans rfl, (blk_cell BK174.out 1).trans rfl, (blk_cell BK174.out 2).trans rfl, (blk_cell BK174.out 3).trans rfl, (blk_cell BK174.out 4).trans rfl⟩ (fun hHeld => ?_); clear hK K; refine norm_ (a' := ?_) ?_ ?_; rotate_left
    ·show Act.put _ (some 26) _ = _
     simp only [Act.put, qI, qz, qs, qi, qj]; rfl
    refine one_ (i := 6) (N := some 27) #[true, true, true, true, true, true, true, true, true, true, false, true, true, false, false, false, false, false] rfl rfl (one_of HT_.out (by kernel_rfl)) (by decide) (fun K hK => ?_); refine goes_ Tryd.func39 (by kernel_rfl) rfl #[.string t175] (by rfl) rfl rfl am ?_; with_reducible refine (float11_whole.calls k t175 t176 _ ?side1 A25.out).mono ?_; (case side1 => exact Go.Proofs.YtkijneohhilboaaDoor.POT.Tabs_below HG.out bl); rintro e w36 ⟨rfl, hb⟩; refine ⟨_, rfl, ?_⟩; replace BK168 := AM (blk_below (g := gb168) (o := .cells #[.int .i64 0, .bool false, .string (⟨#[]⟩ : ByteArray), .string (⟨#[]⟩ : ByteArray)] 43 (0, 0)) bk hb); replace BK174 := AM (blk_below (g := gb174) (o := .cells #[.int .i64 t169, .bool t170, .string t171, .string t172, .string t173] 58 (0, 0)) bk hb); replace HB := AM (below_step bl hb); (try clear hb); refine hK.out _ _ ⟨(blk_cell BK174.out 0).trans rfl, (blk_cell BK174.out 1).trans rfl, (blk_cell BK174.out 2).trans rfl, (blk_cell BK174.out 3).trans rfl, (blk_cell BK174.out 4).trans rfl⟩ (fun hHeld => ?_); clear hK K; refine norm_ (a' := ?_) ?_ ?_; rotate_left
    ·show Act.put _ (some 27) _ = _
     simp only [Act.put, qI, qz, qs, qi, qj]; rfl
    refine one_ (i := 10) (N := some 31) #[true, true, true, true, true, true, true, true, true, true, true, true, true, false, false, false, false, false] rfl rfl (one_of HT_.out (by kernel_rfl)) (by decide) (fun K hK => ?_); refine Go.Proofs.YtkijneohhilboaaDoor.XV.goesT_ Tryd.func37 (by kernel_rfl) rfl #[.string t172] (by rfl) rfl rfl (by rfl) am ?_; with_reducible refine (float11_Of_1.calls t172 t177 _ ?side1 A26.out).mono ?_; (case side1 => exact Go.Proofs.YtkijneohhilboaaDoor.POT.Tabs_below HG.out bl); rintro e w37 ⟨rfl, hb⟩; refine ⟨_, rfl, ?_⟩; replace BK168 := AM (blk_below (g := gb168) (o := .cells #[.int .i64 0, .bool false, .string (⟨#[]⟩ : ByteArray), .string (⟨#[]⟩ : ByteArray)] 43 (0, 0)) bk hb); replace BK174 := AM (blk_below (g := gb174) (o := .cells #[.int .i64 t169, .bool t170, .string t171, .string t172, .string t173] 58 (0, 0)) bk hb); replace HB := AM (below_step bl hb); (try clear hb); refine hK.out _ _ ⟨(blk_cell BK174.out 0).trans rfl, (blk_cell BK174.out 1).trans rfl, (blk_cell BK174.out 2).trans rfl, (blk_cell BK174.out 3).trans rfl, (blk_cell BK174.out 4).trans rfl⟩ (fun hHeld => ?_); clear hK K; refine norm_ (a' := ?_) ?_ ?_; rotate_left
    ·show Act.put _ (some 31) _ = _
     simp only [Act.put, qI, qz, qs, qi, qj]; rfl
    refine one_ (i := 13) (N := some 34) #[true, true, true, true, true, true, true, true, true, true, true, true, true, true, false, false, false, false] rfl rfl (one_of HT_.out (by kernel_rfl)) (by decide) (fun K hK => ?_); refine goes_ Tryd.func38 (by kernel_rfl) rfl #[.bool t170, .string t176, .string t177, .string t173] (by rfl) rfl rfl am ?_; with_reducible refine (dec_Make.calls k t170 t176 t177 t173 t178 t179 t180 t181 t182 _ ?side1 A27.out).mono ?_; (case side1 => exact Go.Proofs.YtkijneohhilboaaDoor.POT.Tabs_below HG.out bl); rintro e w38 ⟨rfl, hb⟩; refine ⟨_, rfl, ?_⟩; replace BK168 := AM (blk_below (g := gb168) (o := .cells #[.int .i64 0, .bool false, .string (⟨#[]⟩ : ByteArray), .string (⟨#[]⟩ : ByteArray)] 43 (0, 0)) bk hb); replace BK174 := AM (blk_below (g := gb174) (o := .cells #[.int .i64 t169, .bool t170, .string t171, .string t172, .string t173] 58 (0, 0)) bk hb); replace HB := AM (below_step bl hb); (try clear hb); refine hK.out _ _ ⟨(blk_cell BK174.out 0).trans rfl, (blk_cell BK174.out 1).trans rfl, (blk_cell BK174.out 2).trans rfl, (blk_cell BK174.out 3).trans rfl, (blk_cell BK174.out 4).trans rfl⟩ (fun hHeld => ?_); clear hK K; refine norm_ (a' := ?_) ?_ ?_; rotate_left
    ·show Act.put _ (some 34) _ = _
     simp only [Act.put, qI, qz, qs, qi, qj]; rfl
    refine pure_ (i := 14) (N := some 35) (v := ?_) (a' := ?_) #[true, true, true, true, true, true, true, true, true, true, true, true, true, true, true, false, false, false] rfl rfl (any_of HT_.out (by kernel_rfl)) (fun _ _ _ h => h) (Or.inl ⟨by rfl, ?_⟩) ?_ ?_; rotate_left
    ·intro w'
     go_simp; with_reducible rfl
    rotate_left
    ·simp only [Act.put, qI, qz, qs, qi, qj]
     rfl
    refine pure_ (i := 15) (N := some 36) (v := ?_) (a' := ?_) #[true, true, true, true, true, true, true, true, true, true, true, true, true, true, true, true, false, false] rfl rfl (any_of HT_.out (by kernel_rfl)) (fun _ _ _ h => h) (Or.inl ⟨by rfl, ?_⟩) ?_ ?_; rotate_left
    ·intro w'
     go_simp; with_reducible rfl
    rotate_left
    ·simp only [Act.put, qI, qz, qs, qi, qj]
     rfl
    refine one_ (i := 16) (N := none) #[true, true, true, true, true, true, true, true, true, true, true, true, true, true, true, true, true, false] rfl rfl (one_of HT_.out (by kernel_rfl)) (by decide) (fun K hK => ?_); have hs39 : w38.cell? ⟨gb168, 0, none⟩ = some (.int .i64 0) := (blk_cell BK168.out 0).trans rfl; have hfs39 := blk_frozen BK168.out 0; have hns39_1 := NB174_168.out; have hms39_1 := NB168_174.out; have hs40 : w38.cell? ⟨gb168, 1, none⟩ = some (.bool false) := (blk_cell BK168.out 1).trans rfl; have hfs40 := blk_frozen BK168.out 1; have hns40_1 := NB174_168.out; have hms40_1 := NB168_174.out; have hs41 : w38.cell? ⟨gb168, 2, none⟩ = some (.string (⟨#[]⟩ : ByteArray)) := (blk_cell BK168.out 2).trans rfl; have hfs41 := blk_frozen BK168.out 2; have hns41_1 := NB174_168.out; have hms41_1 := NB168_174.out; have hs42 : w38.cell? ⟨gb168, 3, none⟩ = some (.string (⟨#[]⟩ : ByteArray)) := (blk_cell BK168.out 3).trans rfl; have hfs42 := blk_frozen BK168.out 3; have hns42_1 := NB174_168.out; have hms42_1 := NB168_174.out; refine skip_ (w1 := ?_) (by rfl) rfl ?_ ?_; rotate_left
    ·go_simp
     rfl
    refine hK.out _ _ ⟨((cell_far (p := ⟨gb168, _, none⟩) NB174_168.out _).trans (((cell_far (p := ⟨gb168, _, none⟩) NB174_168.out _).trans (((cell_far (p := ⟨gb168, _, none⟩) NB174_168.out _).trans (((cell_far (p := ⟨gb168, _, none⟩) NB174_168.out _).trans (hHeld.1)))))))), ((cell_far (p := ⟨gb168, _, none⟩) NB174_168.out _).trans (((cell_far (p := ⟨gb168, _, none⟩) NB174_168.out _).trans (((cell_far (p := ⟨gb168, _, none⟩) NB174_168.out _).trans (((cell_far (p := ⟨gb168, _, none⟩) NB174_168.out _).trans (hHeld.2.1)))))))), ((cell_far (p := ⟨gb168, _, none⟩) NB174_168.out _).trans (((cell_far (p := ⟨gb168, _, none⟩) NB174_168.out _).trans (((cell_far (p := ⟨gb168, _, none⟩) NB174_168.out _).trans (((cell_far (p := ⟨gb168, _, none⟩) NB174_168.out _).trans (hHeld.2.2.1)))))))), ((cell_far (p := ⟨gb168, _, none⟩) NB174_168.out _).trans (((cell_far (p := ⟨gb168, _, none⟩) NB174_168.out _).trans (((cell_far (p := ⟨gb168, _, none⟩) NB174_168.out _).trans (((cell_far (p := ⟨gb168, _, none⟩) NB174_168.out _).trans (hHeld.2.2.2.1)))))))), ((cell_far (p := ⟨gb168, _, none⟩) NB174_168.out _).trans (((cell_far (p := ⟨gb168, _, none⟩) NB174_168.out _).trans (((cell_far (p := ⟨gb168, _, none⟩) NB174_168.out _).trans (((cell_far (p := ⟨gb168, _, none⟩) NB174_168.out _).trans (hHeld.2.2.2.2))))))))⟩ (fun hHeld => ?_); clear hK K; refine pure_ (i := 17) (N := some 3) (v := ?_) (a' := ?_) #[true, true, true, true, true, true, true, true, true, true, true, true, true, true, true, true, true, true] rfl rfl (any_of HT_.out (by kernel_rfl)) (fun _ _ _ h => h) (Or.inl ⟨by rfl, ?_⟩) ?_ ?_; rotate_left
    ·intro w'
     go_simp; with_reducible rfl
    rotate_left
    ·simp only [Act.put, qI, qz, qs, qi, qj]
     rfl
    refine done_ (done_of HT_.out (by kernel_rfl)) ?_; try go_wp2
    refine bodyPost_ret (results_ct rfl _ _ gb168 43 #[.int .i64 t178, .bool t179, .string t180, .string t181] (0, 0) _ rfl bk Tryd.underlying43 rfl (by kernel_rfl)) rfl ?_
    exact ⟨ew, bl⟩

end Go.Proofs.YtkijneohhilboaaDoor.PO
