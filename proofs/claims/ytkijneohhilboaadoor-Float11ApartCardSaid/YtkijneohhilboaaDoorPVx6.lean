/- Written by this session's own program (xprint, made over the kit's print): Lean functions with the same answers as the Go functions, and the proofs of that. Not trusted: Lean checks it. -/
import Derived.Test.YtkijneohhilboaaDoorPVx0
import Derived.Test.YtkijneohhilboaaDoorPVx2
import Derived.Test.YtkijneohhilboaaDoorPVx4
import Derived.Test.YtkijneohhilboaaDoorPVx5
import Derived.Test.YtkijneohhilboaaDoorXV
import Derived.Test.YtkijneohhilboaaDoorXW
namespace Go.Proofs.YtkijneohhilboaaDoor.PV
open Go.Proofs.YtkijneohhilboaaDoor.XW Go.RowKit Go.Proofs.YtkijneohhilboaaDoorW.PrintWords Go.Proofs.YtkijneohhilboaaDoorW.PrintLast Go.Proofs.YtkijneohhilboaaDoorW.PrintMore
attribute [local go_sem] max2_int min2_int max_two min_two max_three min_three max_four min_four   -- for this text's walks alone
set_option linter.unusedVariables false
set_option linter.unusedSimpArgs false

/-! ### big_MulAdd: function 28 -/
def big_MulAdd.f (k : Nat) (a0 : ByteArray) (a1 : Int) (a2 : Int) : Option (ByteArray) := (big_Good.f k a0).bind fun t158 => (if t158 = true then (if 0 < (a0.size : Int) then (if (bt a0 0) = 45 then (some (⟨#[]⟩ : ByteArray)) else ((big_step.f a1).bind fun t159 => (if t159 = true then ((big_step.f a2).bind fun t160 => (if t160 = true then ((big_times.f k a0 a1 a2).bind fun t161 => (some t161)) else (some (⟨#[]⟩ : ByteArray)))) else (some (⟨#[]⟩ : ByteArray))))) else (none)) else (some (⟨#[]⟩ : ByteArray)))
theorem big_MulAdd.mono : ∀ a0 a1 a2 k, LeO (big_MulAdd.f k a0 a1 a2) (big_MulAdd.f (k + 1) a0 a1 a2) := by
 intro a0 a1 a2 k
 unfold big_MulAdd.f
 repeat' first
   | (with_reducible exact big_Good.mono _ _)
   | (with_reducible exact big_times.mono _ _ _ _)
   | (with_reducible exact LeO.refl _)
   | (with_reducible exact LeO.none _)
   | (with_reducible refine LeO.ite ?_ ?_)
   | (with_reducible refine LeO.bind ?_ (fun _ => ?_))
   | exact big_Good.mono _ _
   | exact big_times.mono _ _ _ _
   | exact LeO.none _
   | refine LeO.ite ?_ ?_
   | refine LeO.bind ?_ (fun _ => ?_)
set_option maxHeartbeats 8000000 in
set_option maxRecDepth 100000 in
theorem big_MulAdd.calls (k : Nat) (a0 : ByteArray) (a1 : Int) (a2 : Int) (r : ByteArray) (w : World) (hG : Go.Proofs.YtkijneohhilboaaDoor.PVT.Tabs w) (h : big_MulAdd.f k a0 a1 a2 = some r) :
  Calls Tryd.prog 28 #[.string a0, .int .i64 a1, .int .i64 a2] w fun e w' => e = .returned (.string r) ∧ Below w.heap.size w w' := by
 have HG := Aside0.mk hG
 clear hG
 have HB := Aside0.mk (Below.refl w.heap.size w)
 have H : ((big_Good.f k a0).bind fun t158 => (if t158 = true then (if 0 < (a0.size : Int) then (if (bt a0 0) = 45 then (some (⟨#[]⟩ : ByteArray)) else ((big_step.f a1).bind fun t159 => (if t159 = true then ((big_step.f a2).bind fun t160 => (if t160 = true then ((big_times.f k a0 a1 a2).bind fun t161 => (some t161)) else (some (⟨#[]⟩ : ByteArray)))) else (some (⟨#[]⟩ : ByteArray))))) else (none)) else (some (⟨#[]⟩ : ByteArray)))) = some r := h
 clear h
 replace H := Option.bind_eq_some_iff.mp H
 obtain ⟨t158, A40, H⟩ := H
 replace H : (if t158 = true then (if 0 < (a0.size : Int) then (if (bt a0 0) = 45 then (some (⟨#[]⟩ : ByteArray)) else ((big_step.f a1).bind fun t159 => (if t159 = true then ((big_step.f a2).bind fun t160 => (if t160 = true then ((big_times.f k a0 a1 a2).bind fun t161 => (some t161)) else (some (⟨#[]⟩ : ByteArray)))) else (some (⟨#[]⟩ : ByteArray))))) else (none)) else (some (⟨#[]⟩ : ByteArray))) = some r := H
 have A4 := Aside0.mk A40
 clear A40
 by_cases c5 : t158 = true
 ·subst c5
  have H1 : (if 0 < (a0.size : Int) then (if (bt a0 0) = 45 then (some (⟨#[]⟩ : ByteArray)) else ((big_step.f a1).bind fun t159 => (if t159 = true then ((big_step.f a2).bind fun t160 => (if t160 = true then ((big_times.f k a0 a1 a2).bind fun t161 => (some t161)) else (some (⟨#[]⟩ : ByteArray)))) else (some (⟨#[]⟩ : ByteArray))))) else (none)) = some r := by rw [if_pos rfl] at H; exact H
  clear H
  have H := H1
  clear H1
  by_cases c6 : 0 < (a0.size : Int)
  ·rw [if_pos c6] at H
   have c6b0 : decide (0 < (a0.size : Int)) = true := decide_eq_true c6
   have c6b1 : decide (0 < a0.size) = true := decide_eq_true (by omega)
   clear c6
   by_cases c8 : (bt a0 0) = 45
   ·rw [if_pos c8] at H
    have c8b0 : ((bt a0 0) == 45) = true := beq_iff_eq.mpr c8
    have c8b1 : ((bt a0 0) != 45) = false := bne_eq_false_iff_eq.mpr c8
    clear c8
    obtain rfl := Option.some.inj H
    go_enter Tryd.func28, Tryd.ntmps28
    go_wp2_with (first | ((with_reducible refine gate_callee (f := 47) rfl ?_); refine goesL_ (some 8) rfl rfl Tryd.func47 (by kernel_rfl) rfl #[.string a0] rfl (by (try simp only [List.map_toArray, List.map_cons, List.map_nil]); first | done | rfl | (simp only [List.length_drop, List.length_take]; rfl)) ?_; (with_reducible refine (big_Good.calls k a0 true _ A4.out).mono ?_); rintro e w' ⟨rfl, ⟨nd, rfl⟩⟩; refine ⟨_, rfl, ?_⟩; have p7 : 0 ≤ (0 : Int) := (by omega); have q7 : 0 < a0.size := (by have : (0 : Int) < (a0.size : Int) := of_decide_eq_true (by first | (with_reducible assumption) | assumption); omega); have hx7 : ∀ h : 0 < a0.size, ((a0[0]'h).toNat : Int) = bt a0 0 := bt_at a0 0; clear p7; have qi7 : (0 < (a0.size : Int)) = True := eq_true (of_decide_eq_true (by first | (with_reducible assumption) | assumption)); replace q7 := eq_true q7))
    go_ret
    exact ⟨by first | rfl | (simp [errW_none, errW_some] <;> rfl) | (simp [*, errW_none, errW_some] <;> rfl), bl⟩
   ·rw [if_neg c8] at H
    have c8b0 : ((bt a0 0) == 45) = false := beq_eq_false_iff_ne.mpr c8
    have c8b1 : ((bt a0 0) != 45) = true := bne_iff_ne.mpr c8
    replace H := Option.bind_eq_some_iff.mp H
    obtain ⟨t159, A90, H⟩ := H
    replace H : (if t159 = true then ((big_step.f a2).bind fun t160 => (if t160 = true then ((big_times.f k a0 a1 a2).bind fun t161 => (some t161)) else (some (⟨#[]⟩ : ByteArray)))) else (some (⟨#[]⟩ : ByteArray))) = some r := H
    have A9 := Aside0.mk A90
    clear A90
    by_cases c10 : t159 = true
    ·subst c10
     have H1 : ((big_step.f a2).bind fun t160 => (if t160 = true then ((big_times.f k a0 a1 a2).bind fun t161 => (some t161)) else (some (⟨#[]⟩ : ByteArray)))) = some r := by rw [if_pos rfl] at H; exact H
     clear H
     have H := H1
     clear H1
     replace H := Option.bind_eq_some_iff.mp H
     obtain ⟨t160, A110, H⟩ := H
     replace H : (if t160 = true then ((big_times.f k a0 a1 a2).bind fun t161 => (some t161)) else (some (⟨#[]⟩ : ByteArray))) = some r := H
     have A11 := Aside0.mk A110
     clear A110
     by_cases c12 : t160 = true
     ·subst c12
      have H1 : ((big_times.f k a0 a1 a2).bind fun t161 => (some t161)) = some r := by rw [if_pos rfl] at H; exact H
      clear H
      have H := H1
      clear H1
      replace H := Option.bind_eq_some_iff.mp H
      obtain ⟨t161, A130, H⟩ := H
      replace H : (some t161) = some r := H
      have A13 := Aside0.mk A130
      clear A130
      obtain rfl := Option.some.inj H
      go_enter Tryd.func28, Tryd.ntmps28
      go_wp2_with (first | ((with_reducible refine gate_callee (f := 47) rfl ?_); refine goesL_ (some 8) rfl rfl Tryd.func47 (by kernel_rfl) rfl #[.string a0] rfl (by (try simp only [List.map_toArray, List.map_cons, List.map_nil]); first | done | rfl | (simp only [List.length_drop, List.length_take]; rfl)) ?_; (with_reducible refine (big_Good.calls k a0 true _ A4.out).mono ?_); rintro e w' ⟨rfl, ⟨nd, rfl⟩⟩; refine ⟨_, rfl, ?_⟩; have p7 : 0 ≤ (0 : Int) := (by omega); have q7 : 0 < a0.size := (by have : (0 : Int) < (a0.size : Int) := of_decide_eq_true (by first | (with_reducible assumption) | assumption); omega); have hx7 : ∀ h : 0 < a0.size, ((a0[0]'h).toNat : Int) = bt a0 0 := bt_at a0 0; clear p7; have qi7 : (0 < (a0.size : Int)) = True := eq_true (of_decide_eq_true (by first | (with_reducible assumption) | assumption)); replace q7 := eq_true q7) | (go_at_call 48; (with_reducible refine (big_step.calls a1 true _ A9.out).mono ?_); rintro e w' ⟨rfl, ⟨nd, rfl⟩⟩) | (go_at_call 48; (with_reducible refine (big_step.calls a2 true _ A11.out).mono ?_); rintro e w' ⟨rfl, ⟨nd, rfl⟩⟩) | ((with_reducible refine gate_callee (f := 42) rfl ?_); refine goesL_ (some 28) rfl rfl Tryd.func42 (by kernel_rfl) rfl #[.string a0, .int .i64 a1, .int .i64 a2] rfl (by (try simp only [List.map_toArray, List.map_cons, List.map_nil]); first | done | rfl | (simp only [List.length_drop, List.length_take]; rfl)) ?_; (with_reducible refine (big_times.calls k a0 a1 a2 t161 _ ?side1 A13.out).mono ?_); (case side1 => exact Go.Proofs.YtkijneohhilboaaDoor.PVT.Tabs_below HG.out bl); rintro e w14 ⟨rfl, hb⟩; refine ⟨_, rfl, ?_⟩; have n0_ := Aside0.mk (below_step bl hb); clear HB; have HB := n0_; clear n0_; (try clear hb); (try clear hb2); (try clear hk); (try clear hi)))
      go_ret
      exact ⟨by first | rfl | (simp [errW_none, errW_some] <;> rfl) | (simp [*, errW_none, errW_some] <;> rfl), bl⟩
     ·replace c12 := Bool.eq_false_iff.mpr c12
      subst c12
      have H1 : (some (⟨#[]⟩ : ByteArray)) = some r := by rw [if_neg (show ¬ (false = true) by decide)] at H; exact H
      clear H
      have H := H1
      clear H1
      obtain rfl := Option.some.inj H
      go_enter Tryd.func28, Tryd.ntmps28
      go_wp2_with (first | ((with_reducible refine gate_callee (f := 47) rfl ?_); refine goesL_ (some 8) rfl rfl Tryd.func47 (by kernel_rfl) rfl #[.string a0] rfl (by (try simp only [List.map_toArray, List.map_cons, List.map_nil]); first | done | rfl | (simp only [List.length_drop, List.length_take]; rfl)) ?_; (with_reducible refine (big_Good.calls k a0 true _ A4.out).mono ?_); rintro e w' ⟨rfl, ⟨nd, rfl⟩⟩; refine ⟨_, rfl, ?_⟩; have p7 : 0 ≤ (0 : Int) := (by omega); have q7 : 0 < a0.size := (by have : (0 : Int) < (a0.size : Int) := of_decide_eq_true (by first | (with_reducible assumption) | assumption); omega); have hx7 : ∀ h : 0 < a0.size, ((a0[0]'h).toNat : Int) = bt a0 0 := bt_at a0 0; clear p7; have qi7 : (0 < (a0.size : Int)) = True := eq_true (of_decide_eq_true (by first | (with_reducible assumption) | assumption)); replace q7 := eq_true q7) | (go_at_call 48; (with_reducible refine (big_step.calls a1 true _ A9.out).mono ?_); rintro e w' ⟨rfl, ⟨nd, rfl⟩⟩) | (go_at_call 48; (with_reducible refine (big_step.calls a2 false _ A11.out).mono ?_); rintro e w' ⟨rfl, ⟨nd, rfl⟩⟩))
      go_ret
      exact ⟨by first | rfl | (simp [errW_none, errW_some] <;> rfl) | (simp [*, errW_none, errW_some] <;> rfl), bl⟩
    ·replace c10 := Bool.eq_false_iff.mpr c10
     subst c10
     have H1 : (some (⟨#[]⟩ : ByteArray)) = some r := by rw [if_neg (show ¬ (false = true) by decide)] at H; exact H
     clear H
     have H := H1
     clear H1
     obtain rfl := Option.some.inj H
     go_enter Tryd.func28, Tryd.ntmps28
     go_wp2_with (first | ((with_reducible refine gate_callee (f := 47) rfl ?_); refine goesL_ (some 8) rfl rfl Tryd.func47 (by kernel_rfl) rfl #[.string a0] rfl (by (try simp only [List.map_toArray, List.map_cons, List.map_nil]); first | done | rfl | (simp only [List.length_drop, List.length_take]; rfl)) ?_; (with_reducible refine (big_Good.calls k a0 true _ A4.out).mono ?_); rintro e w' ⟨rfl, ⟨nd, rfl⟩⟩; refine ⟨_, rfl, ?_⟩; have p7 : 0 ≤ (0 : Int) := (by omega); have q7 : 0 < a0.size := (by have : (0 : Int) < (a0.size : Int) := of_decide_eq_true (by first | (with_reducible assumption) | assumption); omega); have hx7 : ∀ h : 0 < a0.size, ((a0[0]'h).toNat : Int) = bt a0 0 := bt_at a0 0; clear p7; have qi7 : (0 < (a0.size : Int)) = True := eq_true (of_decide_eq_true (by first | (with_reducible assumption) | assumption)); replace q7 := eq_true q7) | (go_at_call 48; (with_reducible refine (big_step.calls a1 false _ A9.out).mono ?_); rintro e w' ⟨rfl, ⟨nd, rfl⟩⟩))
     go_ret
     exact ⟨by first | rfl | (simp [errW_none, errW_some] <;> rfl) | (simp [*, errW_none, errW_some] <;> rfl), bl⟩
  ·rw [if_neg c6] at H
   exact absurd H (by simp)
 ·replace c5 := Bool.eq_false_iff.mpr c5
  subst c5
  have H1 : (some (⟨#[]⟩ : ByteArray)) = some r := by rw [if_neg (show ¬ (false = true) by decide)] at H; exact H
  clear H
  have H := H1
  clear H1
  obtain rfl := Option.some.inj H
  go_enter Tryd.func28, Tryd.ntmps28
  go_wp2_with (first | ((with_reducible refine gate_callee (f := 47) rfl ?_); refine goesL_ (some 8) rfl rfl Tryd.func47 (by kernel_rfl) rfl #[.string a0] rfl (by (try simp only [List.map_toArray, List.map_cons, List.map_nil]); first | done | rfl | (simp only [List.length_drop, List.length_take]; rfl)) ?_; (with_reducible refine (big_Good.calls k a0 false _ A4.out).mono ?_); rintro e w' ⟨rfl, ⟨nd, rfl⟩⟩; refine ⟨_, rfl, ?_⟩))
  go_ret
  exact ⟨by first | rfl | (simp [errW_none, errW_some] <;> rfl) | (simp [*, errW_none, errW_some] <;> rfl), bl⟩

/-! ### float11_whole: function 39 -/
mutual
def float11_whole.l0 : Nat → ByteArray → List ByteArray → Int → Int → Option (ByteArray)
 | 0, _, _, _, _ => none
 | k + 1, x4, x15, x16, x17 => if x17 < x16 then (if 0 ≤ x17 then (if x17 < (x15.length : Int) then (if x17 = 0 then ((big_Norm.f k false x4).bind fun t171 => (float11_whole.j1 k t171 (rdOf ByteArray.empty x15 x17) x15 x16 x17)) else (float11_whole.j1 k x4 (rdOf ByteArray.empty x15 x17) x15 x16 x17)) else (none)) else (none)) else (some x4)
def float11_whole.j1 : Nat → ByteArray → ByteArray → List ByteArray → Int → Int → Option (ByteArray)
 | 0, _, _, _, _, _ => none
 | k + 1, x4, x6, x15, x16, x17 => float11_whole.l1 k x4 x6 0 x15 x16 x17 (x6.size : Int) 0
def float11_whole.l1 : Nat → ByteArray → ByteArray → Int → List ByteArray → Int → Int → Int → Int → Option (ByteArray)
 | 0, _, _, _, _, _, _, _, _ => none
 | k + 1, x4, x6, x7, x15, x16, x17, x27, x28 => if x28 < x27 then (if 0 ≤ x28 then (if x28 < (x6.size : Int) then (float11_whole.l1 k x4 x6 (wrap64 ((wrap64 (10 * x7)) + (((bt x6 x28) - 48) % 256))) x15 x16 x17 x27 (wrap64 (x28 + 1))) else (none)) else (none)) else ((big_MulAdd.f k x4 60 x7).bind fun t172 => (float11_whole.l0 k t172 x15 x16 (wrap64 (x17 + 1))))
end
def float11_whole.f (k : Nat) (a0 : ByteArray) : Option (ByteArray) := (strings_Split.f a0 (⟨#[58]⟩ : ByteArray)).bind fun t162 => (if 0 < (t162.length : Int) then (if 1 ≤ (t162.length : Int) then ((some (t162.drop 1 : List ByteArray)).bind fun y166 => (float11_whole.l0 k (rdOf ByteArray.empty t162 0) y166 (y166.length : Int) 0)) else (none)) else (none))
theorem float11_whole.mono_l : ∀ k, (∀ y0 y1 y2 y3, LeO (float11_whole.l0 k y0 y1 y2 y3) (float11_whole.l0 (k + 1) y0 y1 y2 y3)) ∧ (∀ y0 y1 y2 y3 y4, LeO (float11_whole.j1 k y0 y1 y2 y3 y4) (float11_whole.j1 (k + 1) y0 y1 y2 y3 y4)) ∧ (∀ y0 y1 y2 y3 y4 y5 y6 y7, LeO (float11_whole.l1 k y0 y1 y2 y3 y4 y5 y6 y7) (float11_whole.l1 (k + 1) y0 y1 y2 y3 y4 y5 y6 y7))
 | 0 => ⟨fun _ _ _ _ r h => by simp [float11_whole.l0] at h, fun _ _ _ _ _ r h => by simp [float11_whole.j1] at h, fun _ _ _ _ _ _ _ _ r h => by simp [float11_whole.l1] at h⟩
 | k + 1 => by
  obtain ⟨ih0, ih1, ih2⟩ := float11_whole.mono_l k
  refine ⟨?_, ?_, ?_⟩
  ·intro y0 y1 y2 y3
   unfold float11_whole.l0
   repeat' first
   | (with_reducible exact ih0 _ _ _ _)
   | (with_reducible exact ih1 _ _ _ _ _)
   | (with_reducible exact ih2 _ _ _ _ _ _ _ _)
   | (with_reducible exact big_MulAdd.mono _ _ _ _)
   | (with_reducible exact big_Norm.mono _ _ _)
   | (with_reducible exact LeO.refl _)
   | (with_reducible exact LeO.none _)
   | (with_reducible refine LeO.ite ?_ ?_)
   | (with_reducible refine LeO.bind ?_ (fun _ => ?_))
   | exact ih0 _ _ _ _
   | exact ih1 _ _ _ _ _
   | exact ih2 _ _ _ _ _ _ _ _
   | exact big_MulAdd.mono _ _ _ _
   | exact big_Norm.mono _ _ _
   | exact LeO.none _
   | refine LeO.ite ?_ ?_
   | refine LeO.bind ?_ (fun _ => ?_)
  ·intro y0 y1 y2 y3 y4
   unfold float11_whole.j1
   repeat' first
   | (with_reducible exact ih0 _ _ _ _)
   | (with_reducible exact ih1 _ _ _ _ _)
   | (with_reducible exact ih2 _ _ _ _ _ _ _ _)
   | (with_reducible exact big_MulAdd.mono _ _ _ _)
   | (with_reducible exact big_Norm.mono _ _ _)
   | (with_reducible exact LeO.refl _)
   | (with_reducible exact LeO.none _)
   | (with_reducible refine LeO.ite ?_ ?_)
   | (with_reducible refine LeO.bind ?_ (fun _ => ?_))
   | exact ih0 _ _ _ _
   | exact ih1 _ _ _ _ _
   | exact ih2 _ _ _ _ _ _ _ _
   | exact big_MulAdd.mono _ _ _ _
   | exact big_Norm.mono _ _ _
   | exact LeO.none _
   | refine LeO.ite ?_ ?_
   | refine LeO.bind ?_ (fun _ => ?_)
  ·intro y0 y1 y2 y3 y4 y5 y6 y7
   unfold float11_whole.l1
   repeat' first
   | (with_reducible exact ih0 _ _ _ _)
   | (with_reducible exact ih1 _ _ _ _ _)
   | (with_reducible exact ih2 _ _ _ _ _ _ _ _)
   | (with_reducible exact big_MulAdd.mono _ _ _ _)
   | (with_reducible exact big_Norm.mono _ _ _)
   | (with_reducible exact LeO.refl _)
   | (with_reducible exact LeO.none _)
   | (with_reducible refine LeO.ite ?_ ?_)
   | (with_reducible refine LeO.bind ?_ (fun _ => ?_))
   | exact ih0 _ _ _ _
   | exact ih1 _ _ _ _ _
   | exact ih2 _ _ _ _ _ _ _ _
   | exact big_MulAdd.mono _ _ _ _
   | exact big_Norm.mono _ _ _
   | exact LeO.none _
   | refine LeO.ite ?_ ?_
   | refine LeO.bind ?_ (fun _ => ?_)
theorem float11_whole.mono : ∀ a0 k, LeO (float11_whole.f k a0) (float11_whole.f (k + 1) a0) := by
 intro a0 k
 obtain ⟨ih0, ih1, ih2⟩ := float11_whole.mono_l k
 unfold float11_whole.f
 repeat' first
   | (with_reducible exact ih0 _ _ _ _)
   | (with_reducible exact ih1 _ _ _ _ _)
   | (with_reducible exact ih2 _ _ _ _ _ _ _ _)
   | (with_reducible exact big_MulAdd.mono _ _ _ _)
   | (with_reducible exact big_Norm.mono _ _ _)
   | (with_reducible exact LeO.refl _)
   | (with_reducible exact LeO.none _)
   | (with_reducible refine LeO.ite ?_ ?_)
   | (with_reducible refine LeO.bind ?_ (fun _ => ?_))
   | exact ih0 _ _ _ _
   | exact ih1 _ _ _ _ _
   | exact ih2 _ _ _ _ _ _ _ _
   | exact big_MulAdd.mono _ _ _ _
   | exact big_Norm.mono _ _ _
   | exact LeO.none _
   | refine LeO.ite ?_ ?_
   | refine LeO.bind ?_ (fun _ => ?_)
set_option maxHeartbeats 8000000 in
set_option maxRecDepth 100000 in
theorem float11_whole.calls (k : Nat) (a0 : ByteArray) (r : ByteArray) (w : World) (hG : Go.Proofs.YtkijneohhilboaaDoor.PVT.Tabs w) (h : float11_whole.f k a0 = some r) :
  Calls Tryd.prog 39 #[.string a0] w fun e w' => e = .returned (.string r) ∧ Below w.heap.size w w' := by
 have HG := Aside0.mk hG
 clear hG
 have HB := Aside0.mk (Below.refl w.heap.size w)
 have H : ((strings_Split.f a0 (⟨#[58]⟩ : ByteArray)).bind fun t162 => (if 0 < (t162.length : Int) then (if 1 ≤ (t162.length : Int) then ((some (t162.drop 1 : List ByteArray)).bind fun y166 => (float11_whole.l0 k (rdOf ByteArray.empty t162 0) y166 (y166.length : Int) 0)) else (none)) else (none))) = some r := h
 clear h
 replace H := Option.bind_eq_some_iff.mp H
 obtain ⟨t162, A20, H⟩ := H
 replace H : (if 0 < (t162.length : Int) then (if 1 ≤ (t162.length : Int) then ((some (t162.drop 1 : List ByteArray)).bind fun y166 => (float11_whole.l0 k (rdOf ByteArray.empty t162 0) y166 (y166.length : Int) 0)) else (none)) else (none)) = some r := H
 have A2 := Aside0.mk A20
 clear A20
 by_cases c3 : 0 < (t162.length : Int)
 ·rw [if_pos c3] at H
  have c3b0 : decide (0 < (t162.length : Int)) = true := decide_eq_true c3
  have c3b1 : decide (0 < t162.length) = true := decide_eq_true (by omega)
  clear c3
  by_cases c4 : 1 ≤ (t162.length : Int)
  ·rw [if_pos c4] at H
   have c4b0 := eq_true c4
   have c4b1 : decide (1 ≤ (t162.length : Int)) = true := decide_eq_true c4
   clear c4
   obtain ⟨y166, hy166⟩ : ∃ y_ : List ByteArray, y_ = (t162.drop 1) := ⟨_, rfl⟩
   replace H : (float11_whole.l0 k (rdOf ByteArray.empty t162 0) y166 (y166.length : Int) 0) = some r := by first | (rw [hy166]; with_reducible exact H) | (have H2_ := (Option.bind_some _ _).symm.trans H; rw [hy166]; with_reducible exact H2_) | (have H2_ := (Option.bind_some _ _).symm.trans H; with_reducible exact H2_) | with_reducible exact H | (rw [hy166]; exact H) | exact H
   have Ny166 := Aside0.mk hy166
   clear hy166
   have H' := Aside0.mk H
   clear H
   go_enter Tryd.func39, Tryd.ntmps39
   go_wp2_with (first | ((with_reducible refine gate_callee (f := 26) rfl ?_); refine goesL_ (some 10) rfl rfl Tryd.func26 (by kernel_rfl) rfl #[.string a0, .string (⟨#[58]⟩ : ByteArray)] rfl (by (try simp only [List.map_toArray, List.map_cons, List.map_nil]); first | done | rfl | (simp only [List.length_drop, List.length_take]; rfl)) ?_; (with_reducible refine (strings_Split.calls a0 (⟨#[58]⟩ : ByteArray) t162 _ ?side1 A2.out).mono ?_); (case side1 => exact Go.Proofs.YtkijneohhilboaaDoor.PVT.Tabs_below HG.out bl); rintro e w5 ⟨v163, rfl, ho0, hb⟩; refine ⟨_, rfl, ?_⟩; have n0_ := Aside0.mk (Kd.R_lower ho0 (below_size bl)); have n1_ := Aside0.mk (below_step bl hb); clear HB; have HO164 := n0_; have HB := n1_; clear n0_ n1_; (try clear hb); (try clear hb2); (try clear hk); (try clear hi); (try clear ho0); obtain ⟨Ao6, co6, eo6⟩ := Kd.R_slice HO164.out; subst eo6; have p165 : 0 ≤ (0 : Int) := (by omega); have q165 : 0 < (t162.length : Int) := of_decide_eq_true (by first | (with_reducible assumption) | assumption); obtain ⟨ad165, e165, hx165_0⟩ := Kd.at_string (Kd.R_reads' HO164.out).2.2 0 p165 q165; cases e165; have qi165 : (0 < t162.length) = True := eq_true (by omega); (try rw [show ((0 : Int)).toNat = 0 from rfl] at hx165_0); (try rw [Addr.add_zero'] at hx165_0); replace p165 := eq_true p165; replace q165 := eq_true q165; have q7 : (1 : Int) ≤ ((t162.length : Int) : Int) := of_decide_eq_true (by first | (with_reducible assumption) | assumption); obtain ⟨i07, hi07, _, hsz7, _⟩ := info_parts info9; have hroom7 : t162.length ≤ co6 := (Kd.R_reads' HO164.out).2.1; have hC7 : Kd.C Kd.string _ (some ad165) t162.length t162 := (Kd.R_reads' HO164.out).2.2; have hcut7 := cut_from (P := Tryd.prog) 34 9 .i64 Tryd.underlying34 hi07 1 hsz7 (some ad165) t162.length co6 1 (by omega) q7; have hr7 := Kd.C_drop (m := (1 : Int).toNat) (c := co6) hC7 (by omega) hroom7; obtain ⟨A7, hA7⟩ : ∃ A1, A1 = (if co6 = (1 : Int).toNat then (some ad165) else ((some ad165) : Option Addr).map (·.add ((1 : Int).toNat * 1))) := ⟨_, rfl⟩; obtain ⟨c7, hc7⟩ : ∃ c1, c1 = co6 - (1 : Int).toNat := ⟨_, rfl⟩; have hy7 : y166.length = t162.length - (1 : Int).toNat := (by rw [Ny166.out, List.length_drop] <;> omega); rw [show (t162).drop (1 : Int).toNat = y166 from Ny166.out.symm] at hr7; replace hr7 : Kd.C Kd.string _ A7 y166.length y166 := (by rw [hA7]; exact hr7); rw [← hy7, ← hA7, ← hc7] at hcut7; have HR169 := Aside0.mk hr7; have HC169 := Aside0.mk (show y166.length ≤ c7 from by rw [hy7, hc7]; exact Nat.sub_le_sub_right hroom7 _); clear hr7 hC7 hroom7 hi07 hsz7 hc7; have KY7 := Aside0.mk hy7; have KA7 := Aside0.mk hA7; clear hy7 hA7; have KL7 := Aside0.mk (show 1 ≤ t162.length from by omega); replace q7 := eq_true q7))
   go_loopg [4, 17] k (fun kq v4 v17 w' => ∃ (x4_1 : ByteArray) (x17_1 : Int), v4 = .string x4_1 ∧ v17 = .int .i64 x17_1 ∧ Aside0 (float11_whole.l0 kq x4_1 y166 (y166.length : Int) x17_1 = some r) ∧ Aside0 (kq ≤ k) ∧ Aside0 (Kd.C Kd.string w' A7 y166.length y166) ∧ Aside0 (Below w.heap.size w w'))
   case atStart => exact ⟨(rdOf ByteArray.empty t162 0), (0), (by first | rfl | (simp; done) | (simp [*]; done) | (simp [wrap64]; done)), (by first | rfl | (simp; done) | (simp [*]; done) | (simp [wrap64]; done)), H', ⟨Nat.le_refl _⟩, ⟨by repeat (first | (with_reducible exact HR169.out) | (with_reducible refine Kd.C_alloc ?_ _) | (with_reducible refine Kd.C_drewN ?_ _) | (with_reducible refine Kd.C_drew ?_) | exact HR169.out)⟩, ⟨bl⟩⟩
   case round =>
    clear H'
    try clear c1; try clear p1; try clear q1; try clear hx1; try clear qi1; try clear c2; try clear p2; try clear c3; try clear c3b0; try clear c3b1; try clear c4; try clear c4b0; try clear c4b1; try clear c7; try clear q7; try clear hx165_0; try clear p165; try clear q165; try clear q7
    obtain ⟨x4_1, x17_1, rfl, rfl, HA, HK1, HR169, HB⟩ := hrel
    cases gk with
    | zero => exact absurd HA.out (by simp [float11_whole.l0])
    | succ k1 =>
     have H := HA.out
     clear HA
     simp only [float11_whole.l0] at H
     by_cases c8 : x17_1 < (y166.length : Int)
     ·rw [if_pos c8] at H
      have c8b0 : decide (x17_1 < (y166.length : Int)) = true := decide_eq_true c8
      clear c8
      by_cases c9 : 0 ≤ x17_1
      ·rw [if_pos c9] at H
       have c9b0 : decide (0 ≤ x17_1) = true := decide_eq_true c9
       clear c9
       by_cases c10 : x17_1 < (y166.length : Int)
       ·rw [if_pos c10] at H
        have c10b0 : decide (x17_1 < (y166.length : Int)) = true := decide_eq_true c10
        clear c10
        have HC11 := Aside0.mk H
        clear H
        have p170 : 0 ≤ (x17_1 : Int) := of_decide_eq_true (by first | (with_reducible assumption) | assumption)
        have q170 : x17_1 < (y166.length : Int) := of_decide_eq_true (by first | (with_reducible assumption) | assumption)
        obtain ⟨ad170, e170, hx170_0⟩ := Kd.at_string HR169.out x17_1 p170 q170
        cases e170
        (try replace hx170_0 := (HB.out.cell (World.block_lt_of_cell? w _ hx170_0)).trans hx170_0)
        replace p170 := eq_true p170
        replace q170 := eq_true q170
        go_upto_if 23 with (fail)
        go_cut [4] (fun v4 wc => ∃ (kq : Nat) (x4_10 : ByteArray), v4 = .string x4_10 ∧ Aside0 (float11_whole.j1 kq x4_10 (rdOf ByteArray.empty y166 x17_1) y166 (y166.length : Int) x17_1 = some r) ∧ Aside0 (kq ≤ k1) ∧ Aside0 (Kd.C Kd.string wc (some ad170) y166.length y166) ∧ Aside0 (Below w.heap.size w wc))
        case first =>
         have H := HC11.out
         clear HC11
         by_cases c12 : x17_1 = 0
         ·rw [if_pos c12] at H
          have c12b0 : (x17_1 == 0) = true := beq_iff_eq.mpr c12
          have c12b1 : (x17_1 != 0) = false := bne_eq_false_iff_eq.mpr c12
          clear c12
          (first | rw [c12b0] | (simp only [i64_w, i32_w]; rw [c12b0]) | skip)
          replace H := Option.bind_eq_some_iff.mp H
          obtain ⟨t171, A130, H⟩ := H
          replace H : (float11_whole.j1 k1 t171 (rdOf ByteArray.empty y166 x17_1) y166 (y166.length : Int) x17_1) = some r := H
          have A13 := Aside0.mk A130
          clear A130
          have H' := Aside0.mk H
          clear H
          go_wp2_with (first | ((with_reducible refine gate_callee (f := 27) rfl ?_); refine goesL_ (some 25) rfl rfl Tryd.func27 (by kernel_rfl) rfl #[.bool false, .string x4_1] rfl (by (try simp only [List.map_toArray, List.map_cons, List.map_nil]); first | done | rfl | (simp only [List.length_drop, List.length_take]; rfl)) ?_; (with_reducible refine (big_Norm.calls k1 false x4_1 t171 _ A13.out).mono ?_); rintro e w14 ⟨rfl, hb⟩; refine ⟨_, rfl, ?_⟩; have n0_ := Aside0.mk (Kd.C_below (by repeat (first | (with_reducible exact HR169.out) | (with_reducible refine Kd.C_alloc ?_ _) | (with_reducible refine Kd.C_drewN ?_ _) | (with_reducible refine Kd.C_drew ?_) | exact HR169.out)) hb); have n1_ := Aside0.mk (below_step bl hb); clear HR169; clear HB; have HR169 := n0_; have HB := n1_; clear n0_ n1_; (try clear hb); (try clear hb2); (try clear hk); (try clear hi)))
          go_meet
          case rel => exact ⟨_, (t171), (by first | rfl | (simp; done) | (simp [*]; done) | (simp [wrap64]; done)), H', ⟨by have := HK1.out; first | omega | exact Nat.le_refl _⟩, ⟨by repeat (first | (with_reducible exact HR169.out) | (with_reducible refine Kd.C_alloc ?_ _) | (with_reducible refine Kd.C_drewN ?_ _) | (with_reducible refine Kd.C_drew ?_) | exact HR169.out)⟩, ⟨bl⟩⟩
         ·rw [if_neg c12] at H
          have c12b0 : (x17_1 == 0) = false := beq_eq_false_iff_ne.mpr c12
          have c12b1 : (x17_1 != 0) = true := bne_iff_ne.mpr c12
          (first | rw [c12b0] | (simp only [i64_w, i32_w]; rw [c12b0]) | skip)
          have H' := Aside0.mk H
          clear H
          go_wp2
          go_meet
          case rel => exact ⟨_, (x4_1), (by first | rfl | (simp; done) | (simp [*]; done) | (simp [wrap64]; done)), H', ⟨by have := HK1.out; first | omega | exact Nat.le_refl _⟩, ⟨by repeat (first | (with_reducible exact HR169.out) | (with_reducible refine Kd.C_alloc ?_ _) | (with_reducible refine Kd.C_drewN ?_ _) | (with_reducible refine Kd.C_drew ?_) | exact HR169.out)⟩, ⟨bl⟩⟩
        case rest =>
         clear HC11
         try clear c1; try clear p1; try clear q1; try clear hx1; try clear qi1; try clear c2; try clear p2; try clear c3; try clear c3b0; try clear c3b1; try clear c4; try clear c4b0; try clear c4b1; try clear c7; try clear q7; try clear c8; try clear c8b0; try clear c9; try clear c9b0; try clear c10; try clear c10b0; try clear c12; try clear c12b0; try clear c12b1; try clear hx165_0; try clear hx170_0; try clear p1; try clear p165; try clear p170; try clear p2; try clear q1; try clear q165; try clear q170; try clear q7
         obtain ⟨kq, x4_10, rfl, HA, HJ10, HR169, HB⟩ := hcut
         cases kq with
         | zero => exact absurd HA.out (by simp [float11_whole.j1])
         | succ kj10 =>
          have H := HA.out
          clear HA
          simp only [float11_whole.j1] at H
          have H' := Aside0.mk H
          clear H
          go_wp2
          go_loopg [7, 28] kj10 (fun kq v7 v28 w' => ∃ (x7_3 : Int) (x28_3 : Int), v7 = .int .i64 x7_3 ∧ v28 = .int .i64 x28_3 ∧ Aside0 (float11_whole.l1 kq x4_10 (rdOf ByteArray.empty y166 x17_1) x7_3 y166 (y166.length : Int) x17_1 ((rdOf ByteArray.empty y166 x17_1).size : Int) x28_3 = some r) ∧ Aside0 (kq ≤ kj10) ∧ Aside0 (Kd.C Kd.string w' (some ad170) y166.length y166) ∧ Aside0 (Below w.heap.size w w'))
          case atStart => exact ⟨(0), (0), (by first | rfl | (simp; done) | (simp [*]; done) | (simp [wrap64]; done)), (by first | rfl | (simp; done) | (simp [*]; done) | (simp [wrap64]; done)), H', ⟨Nat.le_refl _⟩, ⟨by repeat (first | (with_reducible exact HR169.out) | (with_reducible refine Kd.C_alloc ?_ _) | (with_reducible refine Kd.C_drewN ?_ _) | (with_reducible refine Kd.C_drew ?_) | exact HR169.out)⟩, ⟨bl⟩⟩
          case round =>
           clear H'
           try clear c1; try clear p1; try clear q1; try clear hx1; try clear qi1; try clear c2; try clear p2; try clear c3; try clear c3b0; try clear c3b1; try clear c4; try clear c4b0; try clear c4b1; try clear c7; try clear q7; try clear c8; try clear c8b0; try clear c9; try clear c9b0; try clear c10; try clear c10b0; try clear c12; try clear c12b0; try clear c12b1; try clear hx165_0; try clear hx170_0; try clear p1; try clear p165; try clear p170; try clear p2; try clear q1; try clear q165; try clear q170; try clear q7
           obtain ⟨x7_3, x28_3, rfl, rfl, HA, HK3, HR169, HB⟩ := hrel
           cases gk with
           | zero => exact absurd HA.out (by simp [float11_whole.l1])
           | succ k3 =>
            have H := HA.out
            clear HA
            simp only [float11_whole.l1] at H
            by_cases c15 : x28_3 < ((rdOf ByteArray.empty y166 x17_1).size : Int)
            ·rw [if_pos c15] at H
             have c15b0 : decide (x28_3 < ((rdOf ByteArray.empty y166 x17_1).size : Int)) = true := decide_eq_true c15
             clear c15
             by_cases c16 : 0 ≤ x28_3
             ·rw [if_pos c16] at H
              have c16b0 : decide (0 ≤ x28_3) = true := decide_eq_true c16
              clear c16
              by_cases c17 : x28_3 < ((rdOf ByteArray.empty y166 x17_1).size : Int)
              ·rw [if_pos c17] at H
               have c17b0 : decide (x28_3 < ((rdOf ByteArray.empty y166 x17_1).size : Int)) = true := decide_eq_true c17
               clear c17
               have H' := Aside0.mk H
               clear H
               have p18 : 0 ≤ (x28_3 : Int) := of_decide_eq_true (by first | (with_reducible assumption) | assumption)
               have q18 : x28_3 < ((rdOf ByteArray.empty y166 x17_1).size : Int) := of_decide_eq_true (by first | (with_reducible assumption) | assumption)
               have hx18 := bt_at (rdOf ByteArray.empty y166 x17_1) x28_3
               replace p18 := eq_true p18
               replace q18 := eq_true q18
               go_wp2
               go_roundg k3
               case measure => have := HK1.out; have := HJ10.out; have := HK3.out; omega
               case rel => exact ⟨(wrap64 ((wrap64 (10 * x7_3)) + (((bt (rdOf ByteArray.empty y166 x17_1) x28_3) - 48) % 256))), (wrap64 (x28_3 + 1)), (by first | rfl | (simp; done) | (simp [*]; done) | (simp [wrap64]; done)), (by first | rfl | (simp; done) | (simp [*]; done) | (simp [wrap64]; done)), H', ⟨by have := HK1.out; have := HJ10.out; have := HK3.out; omega⟩, ⟨by repeat (first | (with_reducible exact HR169.out) | (with_reducible refine Kd.C_alloc ?_ _) | (with_reducible refine Kd.C_drewN ?_ _) | (with_reducible refine Kd.C_drew ?_) | exact HR169.out)⟩, ⟨bl⟩⟩
              ·rw [if_neg c17] at H
               exact absurd H (by simp)
             ·rw [if_neg c16] at H
              exact absurd H (by simp)
            ·rw [if_neg c15] at H
             have c15b0 : decide (x28_3 < ((rdOf ByteArray.empty y166 x17_1).size : Int)) = false := decide_eq_false c15
             clear c15
             replace H := Option.bind_eq_some_iff.mp H
             obtain ⟨t172, A190, H⟩ := H
             replace H : (float11_whole.l0 k3 t172 y166 (y166.length : Int) (wrap64 (x17_1 + 1))) = some r := H
             have A19 := Aside0.mk A190
             clear A190
             have H' := Aside0.mk H
             clear H
             go_wp2_with (first | ((with_reducible refine gate_callee (f := 28) rfl ?_); refine goesL_ (some 42) rfl rfl Tryd.func28 (by kernel_rfl) rfl #[.string x4_10, .int .i64 60, .int .i64 x7_3] rfl (by (try simp only [List.map_toArray, List.map_cons, List.map_nil]); first | done | rfl | (simp only [List.length_drop, List.length_take]; rfl)) ?_; (with_reducible refine (big_MulAdd.calls k3 x4_10 60 x7_3 t172 _ ?side1 A19.out).mono ?_); (case side1 => exact Go.Proofs.YtkijneohhilboaaDoor.PVT.Tabs_below HG.out bl); rintro e w20 ⟨rfl, hb⟩; refine ⟨_, rfl, ?_⟩; have n0_ := Aside0.mk (Kd.C_below (by repeat (first | (with_reducible exact HR169.out) | (with_reducible refine Kd.C_alloc ?_ _) | (with_reducible refine Kd.C_drewN ?_ _) | (with_reducible refine Kd.C_drew ?_) | exact HR169.out)) hb); have n1_ := Aside0.mk (below_step bl hb); clear HR169; clear HB; have HR169 := n0_; have HB := n1_; clear n0_ n1_; (try clear hb); (try clear hb2); (try clear hk); (try clear hi)))
             go_roundg k3
             case measure => have := HK1.out; have := HJ10.out; have := HK3.out; omega
             case rel => exact ⟨(t172), (wrap64 (x17_1 + 1)), (by first | rfl | (simp; done) | (simp [*]; done) | (simp [wrap64]; done)), (by first | rfl | (simp; done) | (simp [*]; done) | (simp [wrap64]; done)), H', ⟨by have := HK1.out; have := HJ10.out; have := HK3.out; omega⟩, ⟨by repeat (first | (with_reducible exact HR169.out) | (with_reducible refine Kd.C_alloc ?_ _) | (with_reducible refine Kd.C_drewN ?_ _) | (with_reducible refine Kd.C_drew ?_) | exact HR169.out)⟩, ⟨bl⟩⟩
       ·rw [if_neg c10] at H
        exact absurd H (by simp)
      ·rw [if_neg c9] at H
       exact absurd H (by simp)
     ·rw [if_neg c8] at H
      have c8b0 : decide (x17_1 < (y166.length : Int)) = false := decide_eq_false c8
      clear c8
      obtain rfl := Option.some.inj H
      go_wp2
      go_ret
      exact ⟨by first | rfl | (simp [errW_none, errW_some] <;> rfl) | (simp [*, errW_none, errW_some] <;> rfl), bl⟩
  ·rw [if_neg c4] at H
   exact absurd H (by simp)
 ·rw [if_neg c3] at H
  exact absurd H (by simp)

/-! ### float11_Of: function 19 -/
def float11_Of.f (k : Nat) (a0 : ByteArray) : Option (Int × Bool × ByteArray × ByteArray × Bool) := (float11_read.f k a0).bind fun bt174 => (if bt174.1 = 0 then (some (0, false, (⟨#[]⟩ : ByteArray), (⟨#[]⟩ : ByteArray), false)) else (if bt174.1 = 4 then (some (1, bt174.2.1, (⟨#[]⟩ : ByteArray), (⟨#[]⟩ : ByteArray), true)) else (if bt174.1 = 5 then (some (2, false, (⟨#[]⟩ : ByteArray), (⟨#[]⟩ : ByteArray), true)) else ((float11_Of_1.f bt174.2.2.1).bind fun t180 => ((float11_whole.f k t180).bind fun t181 => ((float11_Of_1.f bt174.2.2.2.1).bind fun t182 => ((dec_Make.f k bt174.2.1 t181 t182 bt174.2.2.2.2).bind fun bt183 => (some (bt183.1, bt183.2.1, bt183.2.2.1, bt183.2.2.2.1, bt183.2.2.2.2)))))))))
theorem float11_Of.mono : ∀ a0 k, LeO (float11_Of.f k a0) (float11_Of.f (k + 1) a0) := by
 intro a0 k
 unfold float11_Of.f
 repeat' first
   | (with_reducible exact dec_Make.mono _ _ _ _ _)
   | (with_reducible exact float11_read.mono _ _)
   | (with_reducible exact float11_whole.mono _ _)
   | (with_reducible exact LeO.refl _)
   | (with_reducible exact LeO.none _)
   | (with_reducible refine LeO.ite ?_ ?_)
   | (with_reducible refine LeO.bind ?_ (fun _ => ?_))
   | exact dec_Make.mono _ _ _ _ _
   | exact float11_read.mono _ _
   | exact float11_whole.mono _ _
   | exact LeO.none _
   | refine LeO.ite ?_ ?_
   | refine LeO.bind ?_ (fun _ => ?_)
def float11_Of.T10 : Bool × List (List Nat × List Nat) := (true, [([], []), ([0], [0]), ([], []), ([], []), ([3], [3]), ([2, 4], [2, 4]), ([5, 5], [5]), ([], []), ([], []), ([8], [8]), ([7, 9, 6], [7, 9]), ([], []), ([11], [11]), ([1, 6, 10, 12, 10], [1, 6, 10, 12]), ([13], [13]), ([13], [13]), ([14, 13, 0, 1, 2, 3, 4, 5, 6, 7, 8, 9, 10, 11, 12, 13, 14, 15], [14]), ([15, 16, 0, 1, 2, 3, 4, 5, 6, 7, 8, 9, 10, 11, 12, 13, 14, 15, 16], [15])])
def float11_Of.B10 : List Nat := [0, 1, 0, 0, 8, 28, 60, 0, 0, 256, 1020, 0, 2048, 8191, 16383, 16383, 65535, 131071]
theorem float11_Of.tab10 : rtab .any (opsOf Tryd.f19 10) = float11_Of.T10 := by kernel_rfl
theorem float11_Of.bits10 : waitsOk float11_Of.T10.2 float11_Of.B10 = true := by kernel_rfl
set_option maxHeartbeats 8000000 in
set_option maxRecDepth 100000 in
theorem float11_Of.calls (k : Nat) (a0 : ByteArray) (r1 : Int) (r2 : Bool) (r3 : ByteArray) (r4 : ByteArray) (r5 : Bool) (w : World) (hG : Go.Proofs.YtkijneohhilboaaDoor.PVT.Tabs w) (h : float11_Of.f k a0 = some (r1, r2, r3, r4, r5)) :
  Calls Tryd.prog 19 #[.string a0] w fun e w' => e = .returned (.tuple #[.agg #[.int .i64 r1, .bool r2, .string r3, .string r4], .bool r5]) ∧ Below w.heap.size w w' := by
 have hu43 := Tryd.underlying43
 have hu58 := Tryd.underlying58
 have HG := Aside0.mk hG
 clear hG
 have HB := Aside0.mk (Below.refl w.heap.size w)
 have H : ((float11_read.f k a0).bind fun bt174 => (if bt174.1 = 0 then (some (0, false, (⟨#[]⟩ : ByteArray), (⟨#[]⟩ : ByteArray), false)) else (if bt174.1 = 4 then (some (1, bt174.2.1, (⟨#[]⟩ : ByteArray), (⟨#[]⟩ : ByteArray), true)) else (if bt174.1 = 5 then (some (2, false, (⟨#[]⟩ : ByteArray), (⟨#[]⟩ : ByteArray), true)) else ((float11_Of_1.f bt174.2.2.1).bind fun t180 => ((float11_whole.f k t180).bind fun t181 => ((float11_Of_1.f bt174.2.2.2.1).bind fun t182 => ((dec_Make.f k bt174.2.1 t181 t182 bt174.2.2.2.2).bind fun bt183 => (some (bt183.1, bt183.2.1, bt183.2.2.1, bt183.2.2.2.1, bt183.2.2.2.2)))))))))) = some (r1, r2, r3, r4, r5) := h
 clear h
 replace H := Option.bind_eq_some_iff.mp H
 obtain ⟨⟨t174, t175, t176, t177, t178⟩, A20, H⟩ := H
 replace H : (if t174 = 0 then (some (0, false, (⟨#[]⟩ : ByteArray), (⟨#[]⟩ : ByteArray), false)) else (if t174 = 4 then (some (1, t175, (⟨#[]⟩ : ByteArray), (⟨#[]⟩ : ByteArray), true)) else (if t174 = 5 then (some (2, false, (⟨#[]⟩ : ByteArray), (⟨#[]⟩ : ByteArray), true)) else ((float11_Of_1.f t176).bind fun t180 => ((float11_whole.f k t180).bind fun t181 => ((float11_Of_1.f t177).bind fun t182 => ((dec_Make.f k t175 t181 t182 t178).bind fun bt183 => (some (bt183.1, bt183.2.1, bt183.2.2.1, bt183.2.2.2.1, bt183.2.2.2.2))))))))) = some (r1, r2, r3, r4, r5) := H
 have A2 := Aside0.mk A20
 clear A20
 by_cases c3 : t174 = 0
 ·rw [if_pos c3] at H
  have c3b0 : (t174 == 0) = true := beq_iff_eq.mpr c3
  have c3b1 : (t174 != 0) = false := bne_eq_false_iff_eq.mpr c3
  clear c3
  simp only [Option.some.injEq, Prod.mk.injEq] at H
  obtain ⟨rfl, rfl, rfl, rfl, rfl⟩ := H
  go_enter Tryd.func19, Tryd.ntmps19
  go_wp2_with (first | ((with_reducible refine gate_dst (N := 2) rfl ?_); refine box_event ?hg (N := 2) ?hd (cs := #[.int .i64 0, .bool false, .string (⟨#[]⟩ : ByteArray), .string (⟨#[]⟩ : ByteArray)]) (t := 43) ?hr ?_; (case hd => rfl); (case hg => rfl); (case hr => first | (go_simp; done) | (go_simp; rfl)); intro gb173 hg w4 hbox hb; have n0_ := Aside0.mk (below_step bl hb); have n1_ := Aside0.mk (hbox); have n2_ := Aside0.mk ((by rw [hg]; exact (below_size bl) : w.heap.size ≤ gb173)); have n3_ := Aside0.mk ((by rw [hg]; exact (below_size bl) : w.heap.size ≤ gb173)); clear HB; have HB := n0_; have BK173 := n1_; have GW173 := n2_; have GE173 := n3_; clear n0_ n1_ n2_ n3_; clear hb hbox hg) | ((with_reducible refine gate_callee (f := 36) rfl ?_); refine goesL_ (some 7) rfl rfl Tryd.func36 (by kernel_rfl) rfl #[.string a0] rfl (by (try simp only [List.map_toArray, List.map_cons, List.map_nil]); first | done | rfl | (simp only [List.length_drop, List.length_take]; rfl)) ?_; (with_reducible refine (float11_read.calls k a0 t174 t175 t176 t177 t178 _ A2.out).mono ?_); rintro e w5 ⟨rfl, hb⟩; refine ⟨_, rfl, ?_⟩; have n0_ := Aside0.mk (blk_below (g := gb173) (o := .cells #[.int .i64 0, .bool false, .string (⟨#[]⟩ : ByteArray), .string (⟨#[]⟩ : ByteArray)] 43 (0, 0)) bk hb); have n1_ := Aside0.mk (below_step bl hb); clear BK173; clear HB; have BK173 := n0_; have HB := n1_; clear n0_ n1_; (try clear hb); (try clear hb2); (try clear hk); (try clear hi)) | ((with_reducible refine gate_dst (N := 4) rfl ?_); refine box_event ?hg (N := 4) ?hd (cs := #[.int .i64 0, .bool false, .string (⟨#[]⟩ : ByteArray), .string (⟨#[]⟩ : ByteArray), .string (⟨#[]⟩ : ByteArray)]) (t := 58) ?hr ?_; (case hd => rfl); (case hg => rfl); (case hr => first | (go_simp; done) | (go_simp; rfl)); intro gb179 hg w6 hbox hb; have n0_ := Aside0.mk (blk_below (g := gb173) (o := .cells #[.int .i64 0, .bool false, .string (⟨#[]⟩ : ByteArray), .string (⟨#[]⟩ : ByteArray)] 43 (0, 0)) bk hb); have n1_ := Aside0.mk (below_step bl hb); have n2_ := Aside0.mk (hbox); have n3_ := Aside0.mk ((by rw [hg]; exact (below_size bl) : w.heap.size ≤ gb179)); have n4_ := Aside0.mk ((by rw [hg]; exact (below_size bl) : w.heap.size ≤ gb179)); have n5_ := Aside0.mk ((by rw [hg]; exact Nat.ne_of_lt (blk_lt (g := gb173) (o := .cells #[.int .i64 0, .bool false, .string (⟨#[]⟩ : ByteArray), .string (⟨#[]⟩ : ByteArray)] 43 (0, 0)) bk) : gb173 ≠ gb179)); have n6_ := Aside0.mk ((by rw [hg]; exact Nat.ne_of_gt (blk_lt (g := gb173) (o := .cells #[.int .i64 0, .bool false, .string (⟨#[]⟩ : ByteArray), .string (⟨#[]⟩ : ByteArray)] 43 (0, 0)) bk) : gb179 ≠ gb173)); clear BK173; clear HB; have BK173 := n0_; have HB := n1_; have BK179 := n2_; have GW179 := n3_; have GE179 := n4_; have NB173_179 := n5_; have NB179_173 := n6_; clear n0_ n1_ n2_ n3_ n4_ n5_ n6_; clear hb hbox hg; have hnb7 := NB179_173.out; have hnc7 := NB173_179.out; have hcz8_0 : w6.cell? ⟨gb179, 0, none⟩ = some (.int .i64 0) := (blk_cell BK179.out 0).trans rfl; have hcz8_1 : w6.cell? ⟨gb179, 1, none⟩ = some (.bool false) := (blk_cell BK179.out 1).trans rfl; have hcz8_2 : w6.cell? ⟨gb179, 2, none⟩ = some (.string (⟨#[]⟩ : ByteArray)) := (blk_cell BK179.out 2).trans rfl; have hcz8_3 : w6.cell? ⟨gb179, 3, none⟩ = some (.string (⟨#[]⟩ : ByteArray)) := (blk_cell BK179.out 3).trans rfl; have hcz8_4 : w6.cell? ⟨gb179, 4, none⟩ = some (.string (⟨#[]⟩ : ByteArray)) := (blk_cell BK179.out 4).trans rfl; have hfz8_0 := blk_frozen BK179.out 0; have hfz8_1 := blk_frozen BK179.out 1; have hfz8_2 := blk_frozen BK179.out 2; have hfz8_3 := blk_frozen BK179.out 3; have hfz8_4 := blk_frozen BK179.out 4; have hcz9_0 : w6.cell? ⟨gb173, 0, none⟩ = some (.int .i64 0) := (blk_cell BK173.out 0).trans rfl; have hcz9_1 : w6.cell? ⟨gb173, 1, none⟩ = some (.bool false) := (blk_cell BK173.out 1).trans rfl; have hcz9_2 : w6.cell? ⟨gb173, 2, none⟩ = some (.string (⟨#[]⟩ : ByteArray)) := (blk_cell BK173.out 2).trans rfl; have hcz9_3 : w6.cell? ⟨gb173, 3, none⟩ = some (.string (⟨#[]⟩ : ByteArray)) := (blk_cell BK173.out 3).trans rfl; have hfz9_0 := blk_frozen BK173.out 0; have hfz9_1 := blk_frozen BK173.out 1; have hfz9_2 := blk_frozen BK173.out 2; have hfz9_3 := blk_frozen BK173.out 3))
  refine bodyPost_ret (results_ct rfl _ _ gb173 43 #[.int .i64 0, .bool false, .string (⟨#[]⟩ : ByteArray), .string (⟨#[]⟩ : ByteArray)] (0, 0) _ rfl bk Tryd.underlying43 rfl (by kernel_rfl)) rfl ?_
  exact ⟨by first | rfl | (simp [errW_none, errW_some] <;> rfl) | (simp [*, errW_none, errW_some] <;> rfl), bl⟩
 ·rw [if_neg c3] at H
  have c3b0 : (t174 == 0) = false := beq_eq_false_iff_ne.mpr c3
  have c3b1 : (t174 != 0) = true := bne_iff_ne.mpr c3
  by_cases c10 : t174 = 4
  ·rw [if_pos c10] at H
   have c10b0 : (t174 == 4) = true := beq_iff_eq.mpr c10
   have c10b1 : (t174 != 4) = false := bne_eq_false_iff_eq.mpr c10
   clear c10
   simp only [Option.some.injEq, Prod.mk.injEq] at H
   obtain ⟨rfl, rfl, rfl, rfl, rfl⟩ := H
   go_enter Tryd.func19, Tryd.ntmps19
   go_wp2_with (first | ((with_reducible refine gate_dst (N := 2) rfl ?_); refine box_event ?hg (N := 2) ?hd (cs := #[.int .i64 0, .bool false, .string (⟨#[]⟩ : ByteArray), .string (⟨#[]⟩ : ByteArray)]) (t := 43) ?hr ?_; (case hd => rfl); (case hg => rfl); (case hr => first | (go_simp; done) | (go_simp; rfl)); intro gb173 hg w11 hbox hb; have n0_ := Aside0.mk (below_step bl hb); have n1_ := Aside0.mk (hbox); have n2_ := Aside0.mk ((by rw [hg]; exact (below_size bl) : w.heap.size ≤ gb173)); have n3_ := Aside0.mk ((by rw [hg]; exact (below_size bl) : w.heap.size ≤ gb173)); clear HB; have HB := n0_; have BK173 := n1_; have GW173 := n2_; have GE173 := n3_; clear n0_ n1_ n2_ n3_; clear hb hbox hg) | ((with_reducible refine gate_callee (f := 36) rfl ?_); refine goesL_ (some 7) rfl rfl Tryd.func36 (by kernel_rfl) rfl #[.string a0] rfl (by (try simp only [List.map_toArray, List.map_cons, List.map_nil]); first | done | rfl | (simp only [List.length_drop, List.length_take]; rfl)) ?_; (with_reducible refine (float11_read.calls k a0 t174 t175 t176 t177 t178 _ A2.out).mono ?_); rintro e w12 ⟨rfl, hb⟩; refine ⟨_, rfl, ?_⟩; have n0_ := Aside0.mk (blk_below (g := gb173) (o := .cells #[.int .i64 0, .bool false, .string (⟨#[]⟩ : ByteArray), .string (⟨#[]⟩ : ByteArray)] 43 (0, 0)) bk hb); have n1_ := Aside0.mk (below_step bl hb); clear BK173; clear HB; have BK173 := n0_; have HB := n1_; clear n0_ n1_; (try clear hb); (try clear hb2); (try clear hk); (try clear hi)) | ((with_reducible refine gate_dst (N := 4) rfl ?_); refine box_event ?hg (N := 4) ?hd (cs := #[.int .i64 0, .bool false, .string (⟨#[]⟩ : ByteArray), .string (⟨#[]⟩ : ByteArray), .string (⟨#[]⟩ : ByteArray)]) (t := 58) ?hr ?_; (case hd => rfl); (case hg => rfl); (case hr => first | (go_simp; done) | (go_simp; rfl)); intro gb179 hg w13 hbox hb; have n0_ := Aside0.mk (blk_below (g := gb173) (o := .cells #[.int .i64 0, .bool false, .string (⟨#[]⟩ : ByteArray), .string (⟨#[]⟩ : ByteArray)] 43 (0, 0)) bk hb); have n1_ := Aside0.mk (below_step bl hb); have n2_ := Aside0.mk (hbox); have n3_ := Aside0.mk ((by rw [hg]; exact (below_size bl) : w.heap.size ≤ gb179)); have n4_ := Aside0.mk ((by rw [hg]; exact (below_size bl) : w.heap.size ≤ gb179)); have n5_ := Aside0.mk ((by rw [hg]; exact Nat.ne_of_lt (blk_lt (g := gb173) (o := .cells #[.int .i64 0, .bool false, .string (⟨#[]⟩ : ByteArray), .string (⟨#[]⟩ : ByteArray)] 43 (0, 0)) bk) : gb173 ≠ gb179)); have n6_ := Aside0.mk ((by rw [hg]; exact Nat.ne_of_gt (blk_lt (g := gb173) (o := .cells #[.int .i64 0, .bool false, .string (⟨#[]⟩ : ByteArray), .string (⟨#[]⟩ : ByteArray)] 43 (0, 0)) bk) : gb179 ≠ gb173)); clear BK173; clear HB; have BK173 := n0_; have HB := n1_; have BK179 := n2_; have GW179 := n3_; have GE179 := n4_; have NB173_179 := n5_; have NB179_173 := n6_; clear n0_ n1_ n2_ n3_ n4_ n5_ n6_; clear hb hbox hg; have hnb14 := NB179_173.out; have hnc14 := NB173_179.out; have hcz15_0 : w13.cell? ⟨gb179, 0, none⟩ = some (.int .i64 0) := (blk_cell BK179.out 0).trans rfl; have hcz15_1 : w13.cell? ⟨gb179, 1, none⟩ = some (.bool false) := (blk_cell BK179.out 1).trans rfl; have hcz15_2 : w13.cell? ⟨gb179, 2, none⟩ = some (.string (⟨#[]⟩ : ByteArray)) := (blk_cell BK179.out 2).trans rfl; have hcz15_3 : w13.cell? ⟨gb179, 3, none⟩ = some (.string (⟨#[]⟩ : ByteArray)) := (blk_cell BK179.out 3).trans rfl; have hcz15_4 : w13.cell? ⟨gb179, 4, none⟩ = some (.string (⟨#[]⟩ : ByteArray)) := (blk_cell BK179.out 4).trans rfl; have hfz15_0 := blk_frozen BK179.out 0; have hfz15_1 := blk_frozen BK179.out 1; have hfz15_2 := blk_frozen BK179.out 2; have hfz15_3 := blk_frozen BK179.out 3; have hfz15_4 := blk_frozen BK179.out 4; have hcz16_0 : w13.cell? ⟨gb173, 0, none⟩ = some (.int .i64 0) := (blk_cell BK173.out 0).trans rfl; have hcz16_1 : w13.cell? ⟨gb173, 1, none⟩ = some (.bool false) := (blk_cell BK173.out 1).trans rfl; have hcz16_2 : w13.cell? ⟨gb173, 2, none⟩ = some (.string (⟨#[]⟩ : ByteArray)) := (blk_cell BK173.out 2).trans rfl; have hcz16_3 : w13.cell? ⟨gb173, 3, none⟩ = some (.string (⟨#[]⟩ : ByteArray)) := (blk_cell BK173.out 3).trans rfl; have hfz16_0 := blk_frozen BK173.out 0; have hfz16_1 := blk_frozen BK173.out 1; have hfz16_2 := blk_frozen BK173.out 2; have hfz16_3 := blk_frozen BK173.out 3))
   refine bodyPost_ret (results_ct rfl _ _ gb173 43 #[.int .i64 1, .bool t175, .string (⟨#[]⟩ : ByteArray), .string (⟨#[]⟩ : ByteArray)] (0, 0) _ rfl bk Tryd.underlying43 rfl (by kernel_rfl)) rfl ?_
   exact ⟨by first | rfl | (simp [errW_none, errW_some] <;> rfl) | (simp [*, errW_none, errW_some] <;> rfl), bl⟩
  ·rw [if_neg c10] at H
   have c10b0 : (t174 == 4) = false := beq_eq_false_iff_ne.mpr c10
   have c10b1 : (t174 != 4) = true := bne_iff_ne.mpr c10
   by_cases c17 : t174 = 5
   ·rw [if_pos c17] at H
    have c17b0 : (t174 == 5) = true := beq_iff_eq.mpr c17
    have c17b1 : (t174 != 5) = false := bne_eq_false_iff_eq.mpr c17
    clear c17
    simp only [Option.some.injEq, Prod.mk.injEq] at H
    obtain ⟨rfl, rfl, rfl, rfl, rfl⟩ := H
    go_enter Tryd.func19, Tryd.ntmps19
    go_wp2_with (first | ((with_reducible refine gate_dst (N := 2) rfl ?_); refine box_event ?hg (N := 2) ?hd (cs := #[.int .i64 0, .bool false, .string (⟨#[]⟩ : ByteArray), .string (⟨#[]⟩ : ByteArray)]) (t := 43) ?hr ?_; (case hd => rfl); (case hg => rfl); (case hr => first | (go_simp; done) | (go_simp; rfl)); intro gb173 hg w18 hbox hb; have n0_ := Aside0.mk (below_step bl hb); have n1_ := Aside0.mk (hbox); have n2_ := Aside0.mk ((by rw [hg]; exact (below_size bl) : w.heap.size ≤ gb173)); have n3_ := Aside0.mk ((by rw [hg]; exact (below_size bl) : w.heap.size ≤ gb173)); clear HB; have HB := n0_; have BK173 := n1_; have GW173 := n2_; have GE173 := n3_; clear n0_ n1_ n2_ n3_; clear hb hbox hg) | ((with_reducible refine gate_callee (f := 36) rfl ?_); refine goesL_ (some 7) rfl rfl Tryd.func36 (by kernel_rfl) rfl #[.string a0] rfl (by (try simp only [List.map_toArray, List.map_cons, List.map_nil]); first | done | rfl | (simp only [List.length_drop, List.length_take]; rfl)) ?_; (with_reducible refine (float11_read.calls k a0 t174 t175 t176 t177 t178 _ A2.out).mono ?_); rintro e w19 ⟨rfl, hb⟩; refine ⟨_, rfl, ?_⟩; have n0_ := Aside0.mk (blk_below (g := gb173) (o := .cells #[.int .i64 0, .bool false, .string (⟨#[]⟩ : ByteArray), .string (⟨#[]⟩ : ByteArray)] 43 (0, 0)) bk hb); have n1_ := Aside0.mk (below_step bl hb); clear BK173; clear HB; have BK173 := n0_; have HB := n1_; clear n0_ n1_; (try clear hb); (try clear hb2); (try clear hk); (try clear hi)) | ((with_reducible refine gate_dst (N := 4) rfl ?_); refine box_event ?hg (N := 4) ?hd (cs := #[.int .i64 0, .bool false, .string (⟨#[]⟩ : ByteArray), .string (⟨#[]⟩ : ByteArray), .string (⟨#[]⟩ : ByteArray)]) (t := 58) ?hr ?_; (case hd => rfl); (case hg => rfl); (case hr => first | (go_simp; done) | (go_simp; rfl)); intro gb179 hg w20 hbox hb; have n0_ := Aside0.mk (blk_below (g := gb173) (o := .cells #[.int .i64 0, .bool false, .string (⟨#[]⟩ : ByteArray), .string (⟨#[]⟩ : ByteArray)] 43 (0, 0)) bk hb); have n1_ := Aside0.mk (below_step bl hb); have n2_ := Aside0.mk (hbox); have n3_ := Aside0.mk ((by rw [hg]; exact (below_size bl) : w.heap.size ≤ gb179)); have n4_ := Aside0.mk ((by rw [hg]; exact (below_size bl) : w.heap.size ≤ gb179)); have n5_ := Aside0.mk ((by rw [hg]; exact Nat.ne_of_lt (blk_lt (g := gb173) (o := .cells #[.int .i64 0, .bool false, .string (⟨#[]⟩ : ByteArray), .string (⟨#[]⟩ : ByteArray)] 43 (0, 0)) bk) : gb173 ≠ gb179)); have n6_ := Aside0.mk ((by rw [hg]; exact Nat.ne_of_gt (blk_lt (g := gb173) (o := .cells #[.int .i64 0, .bool false, .string (⟨#[]⟩ : ByteArray), .string (⟨#[]⟩ : ByteArray)] 43 (0, 0)) bk) : gb179 ≠ gb173)); clear BK173; clear HB; have BK173 := n0_; have HB := n1_; have BK179 := n2_; have GW179 := n3_; have GE179 := n4_; have NB173_179 := n5_; have NB179_173 := n6_; clear n0_ n1_ n2_ n3_ n4_ n5_ n6_; clear hb hbox hg; have hnb21 := NB179_173.out; have hnc21 := NB173_179.out; have hcz22_0 : w20.cell? ⟨gb179, 0, none⟩ = some (.int .i64 0) := (blk_cell BK179.out 0).trans rfl; have hcz22_1 : w20.cell? ⟨gb179, 1, none⟩ = some (.bool false) := (blk_cell BK179.out 1).trans rfl; have hcz22_2 : w20.cell? ⟨gb179, 2, none⟩ = some (.string (⟨#[]⟩ : ByteArray)) := (blk_cell BK179.out 2).trans rfl; have hcz22_3 : w20.cell? ⟨gb179, 3, none⟩ = some (.string (⟨#[]⟩ : ByteArray)) := (blk_cell BK179.out 3).trans rfl; have hcz22_4 : w20.cell? ⟨gb179, 4, none⟩ = some (.string (⟨#[]⟩ : ByteArray)) := (blk_cell BK179.out 4).trans rfl; have hfz22_0 := blk_frozen BK179.out 0; have hfz22_1 := blk_frozen BK179.out 1; have hfz22_2 := blk_frozen BK179.out 2; have hfz22_3 := blk_frozen BK179.out 3; have hfz22_4 := blk_frozen BK179.out 4; have hcz23_0 : w20.cell? ⟨gb173, 0, none⟩ = some (.int .i64 0) := (blk_cell BK173.out 0).trans rfl; have hcz23_1 : w20.cell? ⟨gb173, 1, none⟩ = some (.bool false) := (blk_cell BK173.out 1).trans rfl; have hcz23_2 : w20.cell? ⟨gb173, 2, none⟩ = some (.string (⟨#[]⟩ : ByteArray)) := (blk_cell BK173.out 2).trans rfl; have hcz23_3 : w20.cell? ⟨gb173, 3, none⟩ = some (.string (⟨#[]⟩ : ByteArray)) := (blk_cell BK173.out 3).trans rfl; have hfz23_0 := blk_frozen BK173.out 0; have hfz23_1 := blk_frozen BK173.out 1; have hfz23_2 := blk_frozen BK173.out 2; have hfz23_3 := blk_frozen BK173.out 3))
    refine bodyPost_ret (results_ct rfl _ _ gb173 43 #[.int .i64 2, .bool false, .string (⟨#[]⟩ : ByteArray), .string (⟨#[]⟩ : ByteArray)] (0, 0) _ rfl bk Tryd.underlying43 rfl (by kernel_rfl)) rfl ?_
    exact ⟨by first | rfl | (simp [errW_none, errW_some] <;> rfl) | (simp [*, errW_none, errW_some] <;> rfl), bl⟩
   ·rw [if_neg c17] at H
    have c17b0 : (t174 == 5) = false := beq_eq_false_iff_ne.mpr c17
    have c17b1 : (t174 != 5) = true := bne_iff_ne.mpr c17
    replace H := Option.bind_eq_some_iff.mp H
    obtain ⟨t180, A240, H⟩ := H
    replace H : ((float11_whole.f k t180).bind fun t181 => ((float11_Of_1.f t177).bind fun t182 => ((dec_Make.f k t175 t181 t182 t178).bind fun bt183 => (some (bt183.1, bt183.2.1, bt183.2.2.1, bt183.2.2.2.1, bt183.2.2.2.2))))) = some (r1, r2, r3, r4, r5) := H
    have A24 := Aside0.mk A240
    clear A240
    replace H := Option.bind_eq_some_iff.mp H
    obtain ⟨t181, A250, H⟩ := H
    replace H : ((float11_Of_1.f t177).bind fun t182 => ((dec_Make.f k t175 t181 t182 t178).bind fun bt183 => (some (bt183.1, bt183.2.1, bt183.2.2.1, bt183.2.2.2.1, bt183.2.2.2.2)))) = some (r1, r2, r3, r4, r5) := H
    have A25 := Aside0.mk A250
    clear A250
    replace H := Option.bind_eq_some_iff.mp H
    obtain ⟨t182, A260, H⟩ := H
    replace H : ((dec_Make.f k t175 t181 t182 t178).bind fun bt183 => (some (bt183.1, bt183.2.1, bt183.2.2.1, bt183.2.2.2.1, bt183.2.2.2.2))) = some (r1, r2, r3, r4, r5) := H
    have A26 := Aside0.mk A260
    clear A260
    replace H := Option.bind_eq_some_iff.mp H
    obtain ⟨⟨t183, t184, t185, t186, t187⟩, A270, H⟩ := H
    replace H : (some (t183, t184, t185, t186, t187)) = some (r1, r2, r3, r4, r5) := H
    have A27 := Aside0.mk A270
    clear A270
    simp only [Option.some.injEq, Prod.mk.injEq] at H
    obtain ⟨rfl, rfl, rfl, rfl, rfl⟩ := H
    go_enter Tryd.func19, Tryd.ntmps19
    try go_wp2_with (first | ((with_reducible refine gate_dst (N := 2) rfl ?_); refine box_event ?hg (N := 2) ?hd (cs := #[.int .i64 0, .bool false, .string (⟨#[]⟩ : ByteArray), .string (⟨#[]⟩ : ByteArray)]) (t := 43) ?hr ?_; (case hd => rfl); (case hg => rfl); (case hr => first | (go_simp; done) | (go_simp; rfl)); intro gb173 hg w28 hbox hb; have n0_ := Aside0.mk (below_step bl hb); have n1_ := Aside0.mk (hbox); have n2_ := Aside0.mk ((by rw [hg]; exact (below_size bl) : w.heap.size ≤ gb173)); have n3_ := Aside0.mk ((by rw [hg]; exact (below_size bl) : w.heap.size ≤ gb173)); clear HB; have HB := n0_; have BK173 := n1_; have GW173 := n2_; have GE173 := n3_; clear n0_ n1_ n2_ n3_; clear hb hbox hg) | ((with_reducible refine gate_callee (f := 36) rfl ?_); refine goesL_ (some 7) rfl rfl Tryd.func36 (by kernel_rfl) rfl #[.string a0] rfl (by (try simp only [List.map_toArray, List.map_cons, List.map_nil]); first | done | rfl | (simp only [List.length_drop, List.length_take]; rfl)) ?_; (with_reducible refine (float11_read.calls k a0 t174 t175 t176 t177 t178 _ A2.out).mono ?_); rintro e w29 ⟨rfl, hb⟩; refine ⟨_, rfl, ?_⟩; have n0_ := Aside0.mk (blk_below (g := gb173) (o := .cells #[.int .i64 0, .bool false, .string (⟨#[]⟩ : ByteArray), .string (⟨#[]⟩ : ByteArray)] 43 (0, 0)) bk hb); have n1_ := Aside0.mk (below_step bl hb); clear BK173; clear HB; have BK173 := n0_; have HB := n1_; clear n0_ n1_; (try clear hb); (try clear hb2); (try clear hk); (try clear hi)) | ((with_reducible refine gate_dst (N := 4) rfl ?_); refine box_event ?hg (N := 4) ?hd (cs := #[.int .i64 0, .bool false, .string (⟨#[]⟩ : ByteArray), .string (⟨#[]⟩ : ByteArray), .string (⟨#[]⟩ : ByteArray)]) (t := 58) ?hr ?_; (case hd => rfl); (case hg => rfl); (case hr => first | (go_simp; done) | (go_simp; rfl)); intro gb179 hg w30 hbox hb; have n0_ := Aside0.mk (blk_below (g := gb173) (o := .cells #[.int .i64 0, .bool false, .string (⟨#[]⟩ : ByteArray), .string (⟨#[]⟩ : ByteArray)] 43 (0, 0)) bk hb); have n1_ := Aside0.mk (below_step bl hb); have n2_ := Aside0.mk (hbox); have n3_ := Aside0.mk ((by rw [hg]; exact (below_size bl) : w.heap.size ≤ gb179)); have n4_ := Aside0.mk ((by rw [hg]; exact (below_size bl) : w.heap.size ≤ gb179)); have n5_ := Aside0.mk ((by rw [hg]; exact Nat.ne_of_lt (blk_lt (g := gb173) (o := .cells #[.int .i64 0, .bool false, .string (⟨#[]⟩ : ByteArray), .string (⟨#[]⟩ : ByteArray)] 43 (0, 0)) bk) : gb173 ≠ gb179)); have n6_ := Aside0.mk ((by rw [hg]; exact Nat.ne_of_gt (blk_lt (g := gb173) (o := .cells #[.int .i64 0, .bool false, .string (⟨#[]⟩ : ByteArray), .string (⟨#[]⟩ : ByteArray)] 43 (0, 0)) bk) : gb179 ≠ gb173)); clear BK173; clear HB; have BK173 := n0_; have HB := n1_; have BK179 := n2_; have GW179 := n3_; have GE179 := n4_; have NB173_179 := n5_; have NB179_173 := n6_; clear n0_ n1_ n2_ n3_ n4_ n5_ n6_; clear hb hbox hg; have hnb31 := NB179_173.out; have hnc31 := NB173_179.out; have hcz32_0 : w30.cell? ⟨gb179, 0, none⟩ = some (.int .i64 0) := (blk_cell BK179.out 0).trans rfl; have hcz32_1 : w30.cell? ⟨gb179, 1, none⟩ = some (.bool false) := (blk_cell BK179.out 1).trans rfl; have hcz32_2 : w30.cell? ⟨gb179, 2, none⟩ = some (.string (⟨#[]⟩ : ByteArray)) := (blk_cell BK179.out 2).trans rfl; have hcz32_3 : w30.cell? ⟨gb179, 3, none⟩ = some (.string (⟨#[]⟩ : ByteArray)) := (blk_cell BK179.out 3).trans rfl; have hcz32_4 : w30.cell? ⟨gb179, 4, none⟩ = some (.string (⟨#[]⟩ : ByteArray)) := (blk_cell BK179.out 4).trans rfl; have hfz32_0 := blk_frozen BK179.out 0; have hfz32_1 := blk_frozen BK179.out 1; have hfz32_2 := blk_frozen BK179.out 2; have hfz32_3 := blk_frozen BK179.out 3; have hfz32_4 := blk_frozen BK179.out 4))
    have n0_ : Aside0 ((((((w30.setCell ⟨gb179, 0, none⟩ (.int .i64 t174)).setCell ⟨gb179, 1, none⟩ (.bool t175)).setCell ⟨gb179, 2, none⟩ (.string t176)).setCell ⟨gb179, 3, none⟩ (.string t177)).setCell ⟨gb179, 4, none⟩ (.string t178)).heap[gb173]? = some (.cells #[.int .i64 0, .bool false, .string (⟨#[]⟩ : ByteArray), .string (⟨#[]⟩ : ByteArray)] 43 (0, 0))) := ⟨by (with_reducible repeat (first | refine blk_drewN ?_ _ | refine blk_drew ?_ | refine blk_alloc ?_ _)); refine blk_far ?_ NB173_179.out _; (with_reducible repeat (first | refine blk_drewN ?_ _ | refine blk_drew ?_ | refine blk_alloc ?_ _)); refine blk_far ?_ NB173_179.out _; (with_reducible repeat (first | refine blk_drewN ?_ _ | refine blk_drew ?_ | refine blk_alloc ?_ _)); refine blk_far ?_ NB173_179.out _; (with_reducible repeat (first | refine blk_drewN ?_ _ | refine blk_drew ?_ | refine blk_alloc ?_ _)); refine blk_far ?_ NB173_179.out _; (with_reducible repeat (first | refine blk_drewN ?_ _ | refine blk_drew ?_ | refine blk_alloc ?_ _)); refine blk_far ?_ NB173_179.out _; (with_reducible repeat (first | refine blk_drewN ?_ _ | refine blk_drew ?_ | refine blk_alloc ?_ _)); exact BK173.out⟩
    have n1_ : Aside0 ((((((w30.setCell ⟨gb179, 0, none⟩ (.int .i64 t174)).setCell ⟨gb179, 1, none⟩ (.bool t175)).setCell ⟨gb179, 2, none⟩ (.string t176)).setCell ⟨gb179, 3, none⟩ (.string t177)).setCell ⟨gb179, 4, none⟩ (.string t178)).heap[gb179]? = some (.cells #[.int .i64 t174, .bool t175, .string t176, .string t177, .string t178] 58 (0, 0))) := ⟨by (with_reducible repeat (first | refine blk_drewN ?_ _ | refine blk_drew ?_ | refine blk_alloc ?_ _)); refine blk_put (cs := #[.int .i64 t174, .bool t175, .string t176, .string t177, .string (⟨#[]⟩ : ByteArray)]) ?_ 4 _ rfl; (with_reducible repeat (first | refine blk_drewN ?_ _ | refine blk_drew ?_ | refine blk_alloc ?_ _)); refine blk_put (cs := #[.int .i64 t174, .bool t175, .string t176, .string (⟨#[]⟩ : ByteArray), .string (⟨#[]⟩ : ByteArray)]) ?_ 3 _ rfl; (with_reducible repeat (first | refine blk_drewN ?_ _ | refine blk_drew ?_ | refine blk_alloc ?_ _)); refine blk_put (cs := #[.int .i64 t174, .bool t175, .string (⟨#[]⟩ : ByteArray), .string (⟨#[]⟩ : ByteArray), .string (⟨#[]⟩ : ByteArray)]) ?_ 2 _ rfl; (with_reducible repeat (first | refine blk_drewN ?_ _ | refine blk_drew ?_ | refine blk_alloc ?_ _)); refine blk_put (cs := #[.int .i64 t174, .bool false, .string (⟨#[]⟩ : ByteArray), .string (⟨#[]⟩ : ByteArray), .string (⟨#[]⟩ : ByteArray)]) ?_ 1 _ rfl; (with_reducible repeat (first | refine blk_drewN ?_ _ | refine blk_drew ?_ | refine blk_alloc ?_ _)); refine blk_put (cs := #[.int .i64 0, .bool false, .string (⟨#[]⟩ : ByteArray), .string (⟨#[]⟩ : ByteArray), .string (⟨#[]⟩ : ByteArray)]) ?_ 0 _ rfl; (with_reducible repeat (first | refine blk_drewN ?_ _ | refine blk_drew ?_ | refine blk_alloc ?_ _)); exact BK179.out⟩
    have n2_ : Aside0 (Below w.heap.size w (((((w30.setCell ⟨gb179, 0, none⟩ (.int .i64 t174)).setCell ⟨gb179, 1, none⟩ (.bool t175)).setCell ⟨gb179, 2, none⟩ (.string t176)).setCell ⟨gb179, 3, none⟩ (.string t177)).setCell ⟨gb179, 4, none⟩ (.string t178))) := ⟨bl⟩
    (try clear BK173)
    (try clear BK179)
    (try clear HB)
    generalize (((((w30.setCell ⟨gb179, 0, none⟩ (.int .i64 t174)).setCell ⟨gb179, 1, none⟩ (.bool t175)).setCell ⟨gb179, 2, none⟩ (.string t176)).setCell ⟨gb179, 3, none⟩ (.string t177)).setCell ⟨gb179, 4, none⟩ (.string t178)) = w33 at n0_ n1_ n2_ ⊢
    have BK173 := n0_
    have BK179 := n1_
    have HB := n2_
    clear n0_ n1_ n2_
    have n0_ := Aside0.mk (blk_drew BK173.out)
    have n1_ := Aside0.mk (blk_drew BK179.out)
    have n2_ := Aside0.mk (below_drew1 HB.out)
    clear BK173
    clear BK179
    clear HB
    have BK173 := n0_
    have BK179 := n1_
    have HB := n2_
    clear n0_ n1_ n2_
    refine start_ (n := 18) (S := fun w' => w'.cell? ⟨gb179, 0, none⟩ = some (.int .i64 t174) ∧ w'.cell? ⟨gb179, 1, none⟩ = some (.bool t175) ∧ w'.cell? ⟨gb179, 2, none⟩ = some (.string t176) ∧ w'.cell? ⟨gb179, 3, none⟩ = some (.string t177) ∧ w'.cell? ⟨gb179, 4, none⟩ = some (.string t178)) (ds := []) #[false, false, false, false, false, false, false, false, false, false, false, false, false, false, false, false, false, false] (by kernel_rfl) rfl rfl ⟨(blk_cell BK179.out 0).trans rfl, (blk_cell BK179.out 1).trans rfl, (blk_cell BK179.out 2).trans rfl, (blk_cell BK179.out 3).trans rfl, (blk_cell BK179.out 4).trans rfl⟩ (fun hHeld => ?_); refine with_tabW float11_Of.tab10 float11_Of.bits10 (fun HT_ HW_ => ?_)
    generalize w33.drew = w34 at BK173 BK179 HB hHeld ⊢
    refine pure_ (i := 0) (N := some 21) (v := ?_) (a' := ?_) #[true, false, false, false, false, false, false, false, false, false, false, false, false, false, false, false, false, false] rfl rfl (any_of HT_.out (by kernel_rfl)) (fun _ _ _ h => h) (Or.inl ⟨by rfl, ?_⟩) ?_ ?_
    rotate_left
    ·intro w'
     go_simp
     with_reducible rfl
    rotate_left
    ·simp only [Act.put, List.setIfInBounds_toArray, List.set_cons_zero, List.set_cons_succ, i64_w, i32_w]
     rfl
    refine pure_ (i := 2) (N := some 23) (v := ?_) (a' := ?_) #[true, false, true, false, false, false, false, false, false, false, false, false, false, false, false, false, false, false] rfl rfl (any_of HT_.out (by kernel_rfl)) (fun _ _ _ h => h) (Or.inl ⟨by rfl, ?_⟩) ?_ ?_
    rotate_left
    ·intro w'
     go_simp
     with_reducible rfl
    rotate_left
    ·simp only [Act.put, List.setIfInBounds_toArray, List.set_cons_zero, List.set_cons_succ, i64_w, i32_w]
     rfl
    refine pure_ (i := 3) (N := some 24) (v := ?_) (a' := ?_) #[true, false, true, true, false, false, false, false, false, false, false, false, false, false, false, false, false, false] rfl rfl (any_of HT_.out (by kernel_rfl)) (fun _ _ _ h => h) (Or.inl ⟨by rfl, ?_⟩) ?_ ?_
    rotate_left
    ·intro w'
     go_simp
     with_reducible rfl
    rotate_left
    ·simp only [Act.put, List.setIfInBounds_toArray, List.set_cons_zero, List.set_cons_succ, i64_w, i32_w]
     rfl
    refine pure_ (i := 7) (N := some 28) (v := ?_) (a' := ?_) #[true, false, true, true, false, false, false, true, false, false, false, false, false, false, false, false, false, false] rfl rfl (any_of HT_.out (by kernel_rfl)) (fun _ _ _ h => h) (Or.inl ⟨by rfl, ?_⟩) ?_ ?_
    rotate_left
    ·intro w'
     go_simp
     with_reducible rfl
    rotate_left
    ·simp only [Act.put, List.setIfInBounds_toArray, List.set_cons_zero, List.set_cons_succ, i64_w, i32_w]
     rfl
    refine pure_ (i := 8) (N := some 29) (v := ?_) (a' := ?_) #[true, false, true, true, false, false, false, true, true, false, false, false, false, false, false, false, false, false] rfl rfl (any_of HT_.out (by kernel_rfl)) (fun _ _ _ h => h) (Or.inl ⟨by rfl, ?_⟩) ?_ ?_
    rotate_left
    ·intro w'
     go_simp
     with_reducible rfl
    rotate_left
    ·simp only [Act.put, List.setIfInBounds_toArray, List.set_cons_zero, List.set_cons_succ, i64_w, i32_w]
     rfl
    refine pure_ (i := 11) (N := some 32) (v := ?_) (a' := ?_) #[true, false, true, true, false, false, false, true, true, false, false, true, false, false, false, false, false, false] rfl rfl (any_of HT_.out (by kernel_rfl)) (fun _ _ _ h => h) (Or.inl ⟨by rfl, ?_⟩) ?_ ?_
    rotate_left
    ·intro w'
     go_simp
     with_reducible rfl
    rotate_left
    ·simp only [Act.put, List.setIfInBounds_toArray, List.set_cons_zero, List.set_cons_succ, i64_w, i32_w]
     rfl
    refine take_ (i := 1) (N := some 22) (v := ?_) (a' := ?_) #[true, true, true, true, false, false, false, true, true, false, false, true, false, false, false, false, false, false] rfl rfl (take_ofW HT_.out HW_.out (by kernel_rfl)) (fun _ _ _ h => h) (Or.inl ⟨by rfl, ?_⟩) hHeld ?_ ?_
    rotate_left
    ·rintro w' ⟨s0, s1, s2, s3, s4⟩
     go_simp
     with_reducible rfl
    rotate_left
    ·simp only [Act.put, List.setIfInBounds_toArray, List.set_cons_zero, List.set_cons_succ, i64_w, i32_w]
     rfl
    refine take_ (i := 4) (N := some 25) (v := ?_) (a' := ?_) #[true, true, true, true, true, false, false, true, true, false, false, true, false, false, false, false, false, false] rfl rfl (take_ofW HT_.out HW_.out (by kernel_rfl)) (fun _ _ _ h => h) (Or.inl ⟨by rfl, ?_⟩) hHeld ?_ ?_
    rotate_left
    ·rintro w' ⟨s0, s1, s2, s3, s4⟩
     go_simp
     with_reducible rfl
    rotate_left
    ·simp only [Act.put, List.setIfInBounds_toArray, List.set_cons_zero, List.set_cons_succ, i64_w, i32_w]
     rfl
    refine take_ (i := 9) (N := some 30) (v := ?_) (a' := ?_) #[true, true, true, true, true, false, false, true, true, true, false, true, false, false, false, false, false, false] rfl rfl (take_ofW HT_.out HW_.out (by kernel_rfl)) (fun _ _ _ h => h) (Or.inl ⟨by rfl, ?_⟩) hHeld ?_ ?_
    rotate_left
    ·rintro w' ⟨s0, s1, s2, s3, s4⟩
     go_simp
     with_reducible rfl
    rotate_left
    ·simp only [Act.put, List.setIfInBounds_toArray, List.set_cons_zero, List.set_cons_succ, i64_w, i32_w]
     rfl
    refine take_ (i := 12) (N := some 33) (v := ?_) (a' := ?_) #[true, true, true, true, true, false, false, true, true, true, false, true, true, false, false, false, false, false] rfl rfl (take_ofW HT_.out HW_.out (by kernel_rfl)) (fun _ _ _ h => h) (Or.inl ⟨by rfl, ?_⟩) hHeld ?_ ?_
    rotate_left
    ·rintro w' ⟨s0, s1, s2, s3, s4⟩
     go_simp
     with_reducible rfl
    rotate_left
    ·simp only [Act.put, List.setIfInBounds_toArray, List.set_cons_zero, List.set_cons_succ, i64_w, i32_w]
     rfl
    refine one_ (i := 5) (N := some 26) #[true, true, true, true, true, true, false, true, true, true, false, true, true, false, false, false, false, false] rfl rfl (one_of HT_.out (by kernel_rfl)) (by decide) (fun K hK => ?_)
    refine Go.Proofs.YtkijneohhilboaaDoor.XV.goesT_ Tryd.func37 (by kernel_rfl) rfl #[.string t176] (by rfl) rfl rfl (by rfl) (by (try simp only [List.map_toArray, List.map_cons, List.map_nil]); first | done | rfl | (simp only [List.length_drop, List.length_take]; rfl)) ?_
    with_reducible refine (float11_Of_1.calls t176 t180 _ ?side1 A24.out).mono ?_
    (case side1 => exact Go.Proofs.YtkijneohhilboaaDoor.PVT.Tabs_below HG.out bl)
    rintro e w35 ⟨rfl, hb⟩
    refine ⟨_, rfl, ?_⟩
    have n0_ := Aside0.mk (blk_below (g := gb173) (o := .cells #[.int .i64 0, .bool false, .string (⟨#[]⟩ : ByteArray), .string (⟨#[]⟩ : ByteArray)] 43 (0, 0)) bk hb)
    have n1_ := Aside0.mk (blk_below (g := gb179) (o := .cells #[.int .i64 t174, .bool t175, .string t176, .string t177, .string t178] 58 (0, 0)) bk hb)
    have n2_ := Aside0.mk (below_step bl hb)
    clear BK173
    clear BK179
    clear HB
    have BK173 := n0_
    have BK179 := n1_
    have HB := n2_
    clear n0_ n1_ n2_
    (try clear hb)
    (try clear hb2)
    (try clear hk)
    (try clear hi)
    refine hK.out _ _ ⟨(blk_cell BK179.out 0).trans rfl, (blk_cell BK179.out 1).trans rfl, (blk_cell BK179.out 2).trans rfl, (blk_cell BK179.out 3).trans rfl, (blk_cell BK179.out 4).trans rfl⟩ (fun hHeld => ?_)
    clear hK K
    refine norm_ (a' := ?_) ?_ ?_
    rotate_left
    ·show Act.put _ (some 26) _ = _
     simp only [Act.put, List.setIfInBounds_toArray, List.set_cons_zero, List.set_cons_succ, i64_w, i32_w]
     rfl
    refine one_ (i := 6) (N := some 27) #[true, true, true, true, true, true, true, true, true, true, false, true, true, false, false, false, false, false] rfl rfl (one_of HT_.out (by kernel_rfl)) (by decide) (fun K hK => ?_)
    refine goes_ Tryd.func39 (by kernel_rfl) rfl #[.string t180] (by rfl) rfl rfl (by (try simp only [List.map_toArray, List.map_cons, List.map_nil]); first | done | rfl | (simp only [List.length_drop, List.length_take]; rfl)) ?_
    with_reducible refine (float11_whole.calls k t180 t181 _ ?side1 A25.out).mono ?_
    (case side1 => exact Go.Proofs.YtkijneohhilboaaDoor.PVT.Tabs_below HG.out bl)
    rintro e w36 ⟨rfl, hb⟩
    refine ⟨_, rfl, ?_⟩
    have n0_ := Aside0.mk (blk_below (g := gb173) (o := .cells #[.int .i64 0, .bool false, .string (⟨#[]⟩ : ByteArray), .string (⟨#[]⟩ : ByteArray)] 43 (0, 0)) bk hb)
    have n1_ := Aside0.mk (blk_below (g := gb179) (o := .cells #[.int .i64 t174, .bool t175, .string t176, .string t177, .string t178] 58 (0, 0)) bk hb)
    have n2_ := Aside0.mk (below_step bl hb)
    clear BK173
    clear BK179
    clear HB
    have BK173 := n0_
    have BK179 := n1_
    have HB := n2_
    clear n0_ n1_ n2_
    (try clear hb)
    (try clear hb2)
    (try clear hk)
    (try clear hi)
    refine hK.out _ _ ⟨(blk_cell BK179.out 0).trans rfl, (blk_cell BK179.out 1).trans rfl, (blk_cell BK179.out 2).trans rfl, (blk_cell BK179.out 3).trans rfl, (blk_cell BK179.out 4).trans rfl⟩ (fun hHeld => ?_)
    clear hK K
    refine norm_ (a' := ?_) ?_ ?_
    rotate_left
    ·show Act.put _ (some 27) _ = _
     simp only [Act.put, List.setIfInBounds_toArray, List.set_cons_zero, List.set_cons_succ, i64_w, i32_w]
     rfl
    refine one_ (i := 10) (N := some 31) #[true, true, true, true, true, true, true, true, true, true, true, true, true, false, false, false, false, false] rfl rfl (one_of HT_.out (by kernel_rfl)) (by decide) (fun K hK => ?_)
    refine Go.Proofs.YtkijneohhilboaaDoor.XV.goesT_ Tryd.func37 (by kernel_rfl) rfl #[.string t177] (by rfl) rfl rfl (by rfl) (by (try simp only [List.map_toArray, List.map_cons, List.map_nil]); first | done | rfl | (simp only [List.length_drop, List.length_take]; rfl)) ?_
    with_reducible refine (float11_Of_1.calls t177 t182 _ ?side1 A26.out).mono ?_
    (case side1 => exact Go.Proofs.YtkijneohhilboaaDoor.PVT.Tabs_below HG.out bl)
    rintro e w37 ⟨rfl, hb⟩
    refine ⟨_, rfl, ?_⟩
    have n0_ := Aside0.mk (blk_below (g := gb173) (o := .cells #[.int .i64 0, .bool false, .string (⟨#[]⟩ : ByteArray), .string (⟨#[]⟩ : ByteArray)] 43 (0, 0)) bk hb)
    have n1_ := Aside0.mk (blk_below (g := gb179) (o := .cells #[.int .i64 t174, .bool t175, .string t176, .string t177, .string t178] 58 (0, 0)) bk hb)
    have n2_ := Aside0.mk (below_step bl hb)
    clear BK173
    clear BK179
    clear HB
    have BK173 := n0_
    have BK179 := n1_
    have HB := n2_
    clear n0_ n1_ n2_
    (try clear hb)
    (try clear hb2)
    (try clear hk)
    (try clear hi)
    refine hK.out _ _ ⟨(blk_cell BK179.out 0).trans rfl, (blk_cell BK179.out 1).trans rfl, (blk_cell BK179.out 2).trans rfl, (blk_cell BK179.out 3).trans rfl, (blk_cell BK179.out 4).trans rfl⟩ (fun hHeld => ?_)
    clear hK K
    refine norm_ (a' := ?_) ?_ ?_
    rotate_left
    ·show Act.put _ (some 31) _ = _
     simp only [Act.put, List.setIfInBounds_toArray, List.set_cons_zero, List.set_cons_succ, i64_w, i32_w]
     rfl
    refine one_ (i := 13) (N := some 34) #[true, true, true, true, true, true, true, true, true, true, true, true, true, true, false, false, false, false] rfl rfl (one_of HT_.out (by kernel_rfl)) (by decide) (fun K hK => ?_)
    refine goes_ Tryd.func38 (by kernel_rfl) rfl #[.bool t175, .string t181, .string t182, .string t178] (by rfl) rfl rfl (by (try simp only [List.map_toArray, List.map_cons, List.map_nil]); first | done | rfl | (simp only [List.length_drop, List.length_take]; rfl)) ?_
    with_reducible refine (dec_Make.calls k t175 t181 t182 t178 t183 t184 t185 t186 t187 _ ?side1 A27.out).mono ?_
    (case side1 => exact Go.Proofs.YtkijneohhilboaaDoor.PVT.Tabs_below HG.out bl)
    rintro e w38 ⟨rfl, hb⟩
    refine ⟨_, rfl, ?_⟩
    have n0_ := Aside0.mk (blk_below (g := gb173) (o := .cells #[.int .i64 0, .bool false, .string (⟨#[]⟩ : ByteArray), .string (⟨#[]⟩ : ByteArray)] 43 (0, 0)) bk hb)
    have n1_ := Aside0.mk (blk_below (g := gb179) (o := .cells #[.int .i64 t174, .bool t175, .string t176, .string t177, .string t178] 58 (0, 0)) bk hb)
    have n2_ := Aside0.mk (below_step bl hb)
    clear BK173
    clear BK179
    clear HB
    have BK173 := n0_
    have BK179 := n1_
    have HB := n2_
    clear n0_ n1_ n2_
    (try clear hb)
    (try clear hb2)
    (try clear hk)
    (try clear hi)
    refine hK.out _ _ ⟨(blk_cell BK179.out 0).trans rfl, (blk_cell BK179.out 1).trans rfl, (blk_cell BK179.out 2).trans rfl, (blk_cell BK179.out 3).trans rfl, (blk_cell BK179.out 4).trans rfl⟩ (fun hHeld => ?_)
    clear hK K
    refine norm_ (a' := ?_) ?_ ?_
    rotate_left
    ·show Act.put _ (some 34) _ = _
     simp only [Act.put, List.setIfInBounds_toArray, List.set_cons_zero, List.set_cons_succ, i64_w, i32_w]
     rfl
    refine pure_ (i := 14) (N := some 35) (v := ?_) (a' := ?_) #[true, true, true, true, true, true, true, true, true, true, true, true, true, true, true, false, false, false] rfl rfl (any_of HT_.out (by kernel_rfl)) (fun _ _ _ h => h) (Or.inl ⟨by rfl, ?_⟩) ?_ ?_
    rotate_left
    ·intro w'
     go_simp
     with_reducible rfl
    rotate_left
    ·simp only [Act.put, List.setIfInBounds_toArray, List.set_cons_zero, List.set_cons_succ, i64_w, i32_w]
     rfl
    refine pure_ (i := 15) (N := some 36) (v := ?_) (a' := ?_) #[true, true, true, true, true, true, true, true, true, true, true, true, true, true, true, true, false, false] rfl rfl (any_of HT_.out (by kernel_rfl)) (fun _ _ _ h => h) (Or.inl ⟨by rfl, ?_⟩) ?_ ?_
    rotate_left
    ·intro w'
     go_simp
     with_reducible rfl
    rotate_left
    ·simp only [Act.put, List.setIfInBounds_toArray, List.set_cons_zero, List.set_cons_succ, i64_w, i32_w]
     rfl
    refine one_ (i := 16) (N := none) #[true, true, true, true, true, true, true, true, true, true, true, true, true, true, true, true, true, false] rfl rfl (one_of HT_.out (by kernel_rfl)) (by decide) (fun K hK => ?_)
    have hs39 : w38.cell? ⟨gb173, 0, none⟩ = some (.int .i64 0) := (blk_cell BK173.out 0).trans rfl
    have hfs39 := blk_frozen BK173.out 0
    have hns39_1 := NB179_173.out
    have hms39_1 := NB173_179.out
    have hs40 : w38.cell? ⟨gb173, 1, none⟩ = some (.bool false) := (blk_cell BK173.out 1).trans rfl
    have hfs40 := blk_frozen BK173.out 1
    have hns40_1 := NB179_173.out
    have hms40_1 := NB173_179.out
    have hs41 : w38.cell? ⟨gb173, 2, none⟩ = some (.string (⟨#[]⟩ : ByteArray)) := (blk_cell BK173.out 2).trans rfl
    have hfs41 := blk_frozen BK173.out 2
    have hns41_1 := NB179_173.out
    have hms41_1 := NB173_179.out
    have hs42 : w38.cell? ⟨gb173, 3, none⟩ = some (.string (⟨#[]⟩ : ByteArray)) := (blk_cell BK173.out 3).trans rfl
    have hfs42 := blk_frozen BK173.out 3
    have hns42_1 := NB179_173.out
    have hms42_1 := NB173_179.out
    refine skip_ (w1 := ?_) (by rfl) rfl ?_ ?_
    rotate_left
    ·go_simp
     rfl
    refine hK.out _ _ ⟨((cell_far (p := ⟨gb173, _, none⟩) NB179_173.out _).trans (((cell_far (p := ⟨gb173, _, none⟩) NB179_173.out _).trans (((cell_far (p := ⟨gb173, _, none⟩) NB179_173.out _).trans (((cell_far (p := ⟨gb173, _, none⟩) NB179_173.out _).trans (hHeld.1)))))))), ((cell_far (p := ⟨gb173, _, none⟩) NB179_173.out _).trans (((cell_far (p := ⟨gb173, _, none⟩) NB179_173.out _).trans (((cell_far (p := ⟨gb173, _, none⟩) NB179_173.out _).trans (((cell_far (p := ⟨gb173, _, none⟩) NB179_173.out _).trans (hHeld.2.1)))))))), ((cell_far (p := ⟨gb173, _, none⟩) NB179_173.out _).trans (((cell_far (p := ⟨gb173, _, none⟩) NB179_173.out _).trans (((cell_far (p := ⟨gb173, _, none⟩) NB179_173.out _).trans (((cell_far (p := ⟨gb173, _, none⟩) NB179_173.out _).trans (hHeld.2.2.1)))))))), ((cell_far (p := ⟨gb173, _, none⟩) NB179_173.out _).trans (((cell_far (p := ⟨gb173, _, none⟩) NB179_173.out _).trans (((cell_far (p := ⟨gb173, _, none⟩) NB179_173.out _).trans (((cell_far (p := ⟨gb173, _, none⟩) NB179_173.out _).trans (hHeld.2.2.2.1)))))))), ((cell_far (p := ⟨gb173, _, none⟩) NB179_173.out _).trans (((cell_far (p := ⟨gb173, _, none⟩) NB179_173.out _).trans (((cell_far (p := ⟨gb173, _, none⟩) NB179_173.out _).trans (((cell_far (p := ⟨gb173, _, none⟩) NB179_173.out _).trans (hHeld.2.2.2.2))))))))⟩ (fun hHeld => ?_)
    clear hK K
    refine pure_ (i := 17) (N := some 3) (v := ?_) (a' := ?_) #[true, true, true, true, true, true, true, true, true, true, true, true, true, true, true, true, true, true] rfl rfl (any_of HT_.out (by kernel_rfl)) (fun _ _ _ h => h) (Or.inl ⟨by rfl, ?_⟩) ?_ ?_
    rotate_left
    ·intro w'
     go_simp
     with_reducible rfl
    rotate_left
    ·simp only [Act.put, List.setIfInBounds_toArray, List.set_cons_zero, List.set_cons_succ, i64_w, i32_w]
     rfl
    refine done_ (done_of HT_.out (by kernel_rfl)) ?_
    try go_wp2
    refine bodyPost_ret (results_ct rfl _ _ gb173 43 #[.int .i64 t183, .bool t184, .string t185, .string t186] (0, 0) _ rfl bk Tryd.underlying43 rfl (by kernel_rfl)) rfl ?_
    exact ⟨by first | rfl | (simp [errW_none, errW_some] <;> rfl) | (simp [*, errW_none, errW_some] <;> rfl), bl⟩

/-! ### float11_Form: function 20 -/
def float11_Form.f (k : Nat) (a0 : ByteArray) : Option (Int) := (float11_read.f k a0).bind fun bt188 => (some bt188.1)
theorem float11_Form.mono : ∀ a0 k, LeO (float11_Form.f k a0) (float11_Form.f (k + 1) a0) := by
 intro a0 k
 unfold float11_Form.f
 repeat' first
   | (with_reducible exact float11_read.mono _ _)
   | (with_reducible exact LeO.refl _)
   | (with_reducible exact LeO.none _)
   | (with_reducible refine LeO.ite ?_ ?_)
   | (with_reducible refine LeO.bind ?_ (fun _ => ?_))
   | exact float11_read.mono _ _
   | exact LeO.none _
   | refine LeO.ite ?_ ?_
   | refine LeO.bind ?_ (fun _ => ?_)
set_option maxHeartbeats 8000000 in
set_option maxRecDepth 100000 in
theorem float11_Form.calls (k : Nat) (a0 : ByteArray) (r : Int) (w : World) (h : float11_Form.f k a0 = some r) :
  Calls Tryd.prog 20 #[.string a0] w fun e w' => e = .returned (.int .i64 r) ∧ Below w.heap.size w w' := by
 have hfd0 : ∀ (f0 : Int) (f1 : Bool) (f2 : ByteArray) (f3 : ByteArray) (f4 : ByteArray) (w' : World), Sem.run Tryd.prog (Instr.field 58 (.agg #[.int .i64 f0, .bool f1, .string f2, .string f3, .string f4]) 0) w' = .ok (.int .i64 f0) w' := fun _ _ _ _ _ _ => rfl
 have HB := Aside0.mk (Below.refl w.heap.size w)
 have H : ((float11_read.f k a0).bind fun bt188 => (some bt188.1)) = some r := h
 clear h
 replace H := Option.bind_eq_some_iff.mp H
 obtain ⟨⟨t188, t189, t190, t191, t192⟩, A20, H⟩ := H
 replace H : (some t188) = some r := H
 have A2 := Aside0.mk A20
 clear A20
 obtain rfl := Option.some.inj H
 go_enter Tryd.func20, Tryd.ntmps20
 go_wp2_with (first | ((with_reducible refine gate_callee (f := 36) rfl ?_); refine goesL_ (some 4) rfl rfl Tryd.func36 (by kernel_rfl) rfl #[.string a0] rfl (by (try simp only [List.map_toArray, List.map_cons, List.map_nil]); first | done | rfl | (simp only [List.length_drop, List.length_take]; rfl)) ?_; (with_reducible refine (float11_read.calls k a0 t188 t189 t190 t191 t192 _ A2.out).mono ?_); rintro e w3 ⟨rfl, hb⟩; refine ⟨_, rfl, ?_⟩; have n0_ := Aside0.mk (below_step bl hb); clear HB; have HB := n0_; clear n0_; (try clear hb); (try clear hb2); (try clear hk); (try clear hi)))
 go_ret
 exact ⟨by first | rfl | (simp [errW_none, errW_some] <;> rfl) | (simp [*, errW_none, errW_some] <;> rfl), bl⟩

end Go.Proofs.YtkijneohhilboaaDoor.PV
