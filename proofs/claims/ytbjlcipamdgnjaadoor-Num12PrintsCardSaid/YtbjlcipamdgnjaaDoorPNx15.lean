/- Written by this session's own program (xprint, made over the kit's print): Lean functions with the same answers as the Go functions, and the proofs of that. Not trusted: Lean checks it. -/
import Derived.Test.YtbjlcipamdgnjaaDoorPNx0
import Derived.Test.YtbjlcipamdgnjaaDoorPNx1
import Derived.Test.YtbjlcipamdgnjaaDoorPNx3
import Derived.Test.YtbjlcipamdgnjaaDoorPNx5
import Derived.Test.YtbjlcipamdgnjaaDoorPNx6
import Derived.Test.YtbjlcipamdgnjaaDoorPNx9
import Derived.Test.YtbjlcipamdgnjaaDoorPNx10
import Derived.Test.YtbjlcipamdgnjaaDoorPNx13
import Derived.Test.YtbjlcipamdgnjaaDoorPNx14
import Derived.Test.YtbjlcipamdgnjaaDoorXW
namespace Go.Proofs.YtbjlcipamdgnjaaDoor.PN
open Go.Proofs.YtbjlcipamdgnjaaDoor.XW Go.RowKit Go.Proofs.YtbjlcipamdgnjaaDoorW.PrintWords Go.Proofs.YtbjlcipamdgnjaaDoorW.PrintLast Go.Proofs.YtbjlcipamdgnjaaDoorW.PrintMore
attribute [local go_sem] max2_int min2_int max_two min_two max_three min_three max_four min_four   -- for this text's walks alone
set_option linter.unusedVariables false
set_option linter.unusedSimpArgs false

attribute [local go_sem high] eqA28
/-! ### targumlaw8_Num12Prints: function 4 -/
def targumlaw8_Num12Prints.j0 : Nat → ByteArray → ByteArray → Bool → Int → Bool → Option (Bool)
 | 0, _, _, _, _, _ => none
 | k + 1, x0, x1, x2, x3, x37 => if x37 = true then (some true) else ((targumlaw8_digits.f k x0).bind fun t330 => ((targumlaw8_digits.f k x1).bind fun t331 => ((targumref4_Add.f k (⟨#[48]⟩ : ByteArray) (wrap64 (x3))).bind fun t332 => ((targumref4_Make.f k x2 t330 t331 t332).bind fun bt333 => ((targumref4_Print.f k bt333.1 bt333.2.1 bt333.2.2.1 bt333.2.2.2.1).bind fun t339 => ((num12_Float.f k t339).bind fun bt340 => ((num12_Int.f k t339).bind fun bt346 => ((targumref4_Print.f k 1 x2 (⟨#[]⟩ : ByteArray) (⟨#[]⟩ : ByteArray)).bind fun t348 => ((num12_Float.f k t348).bind fun bt349 => ((num12_Float.f k (⟨#[46, 110, 97, 110]⟩ : ByteArray)).bind fun bt355 => (if bt333.2.2.2.2 = true then (if bt340.2.2.2.2 = true then (if (bt340.1 == bt333.1 && (bt340.2.1 == bt333.2.1 && (bt340.2.2.1.toList == bt333.2.2.1.toList && (bt340.2.2.2.1.toList == bt333.2.2.2.1.toList)))) = true then (if bt346.2 = true then (some false) else (if bt349.2.2.2.2 = true then (if (bt349.1 == 1 && (bt349.2.1 == x2 && (bt349.2.2.1.toList == ([] : List UInt8) && (bt349.2.2.2.1.toList == ([] : List UInt8))))) = true then (if bt355.2.2.2.2 = true then (some (bt355.1 == 2 && (!bt355.2.1 && (bt355.2.2.1.toList == ([] : List UInt8) && (bt355.2.2.2.1.toList == ([] : List UInt8)))))) else (some false)) else (some false)) else (some false))) else (some false)) else (some false)) else (some false))))))))))))
def targumlaw8_Num12Prints.f (k : Nat) (a0 : ByteArray) (a1 : ByteArray) (a2 : Bool) (a3 : Int) : Option (Bool) := (targumlaw8_known.f k).bind fun t329 => (if t329 = true then (if (wrap64 ((a0.size : Int) + (a1.size : Int))) < 1 then (targumlaw8_Num12Prints.j0 k a0 a1 a2 a3 true) else (if (a0.size : Int) > 30 then (targumlaw8_Num12Prints.j0 k a0 a1 a2 a3 true) else (targumlaw8_Num12Prints.j0 k a0 a1 a2 a3 (decide ((a1.size : Int) > 30))))) else (some false))
theorem targumlaw8_Num12Prints.mono_l : ∀ k, (∀ y0 y1 y2 y3 y4, LeO (targumlaw8_Num12Prints.j0 k y0 y1 y2 y3 y4) (targumlaw8_Num12Prints.j0 (k + 1) y0 y1 y2 y3 y4))
 | 0 => fun _ _ _ _ _ r h => by simp [targumlaw8_Num12Prints.j0] at h
 | k + 1 => by
  have ih0 := targumlaw8_Num12Prints.mono_l k
  ·intro y0 y1 y2 y3 y4
   unfold targumlaw8_Num12Prints.j0
   repeat' first
   | (with_reducible exact ih0 _ _ _ _ _)
   | (with_reducible exact num12_Float.mono _ _)
   | (with_reducible exact num12_Int.mono _ _)
   | (with_reducible exact targumlaw8_digits.mono _ _)
   | (with_reducible exact targumlaw8_known.mono _)
   | (with_reducible exact targumref4_Add.mono _ _ _)
   | (with_reducible exact targumref4_Make.mono _ _ _ _ _)
   | (with_reducible exact targumref4_Print.mono _ _ _ _ _)
   | (with_reducible exact LeO.refl _)
   | (with_reducible exact LeO.none _)
   | (with_reducible refine LeO.ite ?_ ?_)
   | (with_reducible refine LeO.bind ?_ (fun _ => ?_))
   | exact ih0 _ _ _ _ _
   | exact num12_Float.mono _ _
   | exact num12_Int.mono _ _
   | exact targumlaw8_digits.mono _ _
   | exact targumlaw8_known.mono _
   | exact targumref4_Add.mono _ _ _
   | exact targumref4_Make.mono _ _ _ _ _
   | exact targumref4_Print.mono _ _ _ _ _
   | exact LeO.none _
   | refine LeO.ite ?_ ?_
   | refine LeO.bind ?_ (fun _ => ?_)
theorem targumlaw8_Num12Prints.mono : ∀ a0 a1 a2 a3 k, LeO (targumlaw8_Num12Prints.f k a0 a1 a2 a3) (targumlaw8_Num12Prints.f (k + 1) a0 a1 a2 a3) := by
 intro a0 a1 a2 a3 k
 have ih0 := targumlaw8_Num12Prints.mono_l k
 unfold targumlaw8_Num12Prints.f
 repeat' first
   | (with_reducible exact ih0 _ _ _ _ _)
   | (with_reducible exact num12_Float.mono _ _)
   | (with_reducible exact num12_Int.mono _ _)
   | (with_reducible exact targumlaw8_digits.mono _ _)
   | (with_reducible exact targumlaw8_known.mono _)
   | (with_reducible exact targumref4_Add.mono _ _ _)
   | (with_reducible exact targumref4_Make.mono _ _ _ _ _)
   | (with_reducible exact targumref4_Print.mono _ _ _ _ _)
   | (with_reducible exact LeO.refl _)
   | (with_reducible exact LeO.none _)
   | (with_reducible refine LeO.ite ?_ ?_)
   | (with_reducible refine LeO.bind ?_ (fun _ => ?_))
   | exact ih0 _ _ _ _ _
   | exact num12_Float.mono _ _
   | exact num12_Int.mono _ _
   | exact targumlaw8_digits.mono _ _
   | exact targumlaw8_known.mono _
   | exact targumref4_Add.mono _ _ _
   | exact targumref4_Make.mono _ _ _ _ _
   | exact targumref4_Print.mono _ _ _ _ _
   | exact LeO.none _
   | refine LeO.ite ?_ ?_
   | refine LeO.bind ?_ (fun _ => ?_)
set_option maxHeartbeats 8000000 in
set_option maxRecDepth 100000 in
theorem targumlaw8_Num12Prints.calls (k : Nat) (a0 : ByteArray) (a1 : ByteArray) (a2 : Bool) (a3 : Int) (r : Bool) (w : World) (hG : Go.Proofs.YtbjlcipamdgnjaaDoor.Room.PowTab w) (h : targumlaw8_Num12Prints.f k a0 a1 a2 a3 = some r) :
  Calls Tryd.prog 4 #[.string a0, .string a1, .bool a2, .int .i32 a3] w fun e w' => e = .returned (.bool r) ∧ Below w.heap.size w w' := by
 have hu28 := Tryd.underlying28
 have HG := Aside0.mk hG
 clear hG
 have HB := Aside0.mk (Below.refl w.heap.size w)
 have H : ((targumlaw8_known.f k).bind fun t329 => (if t329 = true then (if (wrap64 ((a0.size : Int) + (a1.size : Int))) < 1 then (targumlaw8_Num12Prints.j0 k a0 a1 a2 a3 true) else (if (a0.size : Int) > 30 then (targumlaw8_Num12Prints.j0 k a0 a1 a2 a3 true) else (targumlaw8_Num12Prints.j0 k a0 a1 a2 a3 (decide ((a1.size : Int) > 30))))) else (some false))) = some r := h
 clear h
 replace H := Option.bind_eq_some_iff.mp H
 obtain ⟨t329, A50, H⟩ := H
 replace H : (if t329 = true then (if (wrap64 ((a0.size : Int) + (a1.size : Int))) < 1 then (targumlaw8_Num12Prints.j0 k a0 a1 a2 a3 true) else (if (a0.size : Int) > 30 then (targumlaw8_Num12Prints.j0 k a0 a1 a2 a3 true) else (targumlaw8_Num12Prints.j0 k a0 a1 a2 a3 (decide ((a1.size : Int) > 30))))) else (some false)) = some r := H
 have A5 := Aside0.mk A50
 clear A50
 by_cases c6 : t329 = true
 ·subst c6
  have H1 : (if (wrap64 ((a0.size : Int) + (a1.size : Int))) < 1 then (targumlaw8_Num12Prints.j0 k a0 a1 a2 a3 true) else (if (a0.size : Int) > 30 then (targumlaw8_Num12Prints.j0 k a0 a1 a2 a3 true) else (targumlaw8_Num12Prints.j0 k a0 a1 a2 a3 (decide ((a1.size : Int) > 30))))) = some r := by rw [if_pos rfl] at H; exact H
  clear H
  have H := H1
  clear H1
  have HC7 := Aside0.mk H
  clear H
  go_enter Tryd.func4, Tryd.ntmps4
  go_upto_region 3 with (first | ((with_reducible refine gate_callee (f := 8) rfl ?_); refine goesL_ (some 20) rfl rfl Tryd.func8 (by kernel_rfl) rfl #[] rfl (by (try simp only [List.map_toArray, List.map_cons, List.map_nil]); first | done | rfl | (simp only [List.length_drop, List.length_take]; rfl)) ?_; (with_reducible refine (targumlaw8_known.calls k  true _ ?side1 A5.out).mono ?_); (case side1 => exact Go.Proofs.YtbjlcipamdgnjaaDoor.Room.PowTab_below HG.out bl); rintro e w8 ⟨rfl, hb⟩; refine ⟨_, rfl, ?_⟩; have n0_ := Aside0.mk (below_step bl hb); clear HB; have HB := n0_; clear n0_; (try clear hb); (try clear hb2); (try clear hk); (try clear hi)))
  (try simp only [Act.put, List.setIfInBounds_toArray, List.set_cons_zero, List.set_cons_succ])
  go_cut [37] (fun v37 wc => ∃ (kq : Nat) (x37_6 : Bool), v37 = .bool x37_6 ∧ Aside0 (targumlaw8_Num12Prints.j0 kq a0 a1 a2 a3 x37_6 = some r) ∧ Aside0 (kq ≤ k) ∧ Aside0 (Below w.heap.size w wc))
  case first =>
   have H := HC7.out
   clear HC7
   by_cases c9 : (wrap64 ((a0.size : Int) + (a1.size : Int))) < 1
   ·rw [if_pos c9] at H
    have c9b0 : decide ((wrap64 ((a0.size : Int) + (a1.size : Int))) < 1) = true := decide_eq_true c9
    clear c9
    (first | rw [c9b0] | (simp only [i64_w, i32_w]; rw [c9b0]) | skip)
    have H' := Aside0.mk H
    clear H
    go_wp2
    go_meet
    case rel => exact ⟨_, (true), (by first | rfl | (simp; done) | (simp [*]; done) | (simp [wrap64]; done)), H', ⟨by first | omega | exact Nat.le_refl _⟩, ⟨bl⟩⟩
   ·rw [if_neg c9] at H
    have c9b0 : decide ((wrap64 ((a0.size : Int) + (a1.size : Int))) < 1) = false := decide_eq_false c9
    clear c9
    (first | rw [c9b0] | (simp only [i64_w, i32_w]; rw [c9b0]) | skip)
    by_cases c10 : (a0.size : Int) > 30
    ·rw [if_pos c10] at H
     have c10b0 : decide (30 < (a0.size : Int)) = true := decide_eq_true c10
     have c10b1 : decide (30 < a0.size) = true := decide_eq_true (by omega)
     clear c10
     have H' := Aside0.mk H
     clear H
     go_wp2
     go_meet
     case rel => exact ⟨_, (true), (by first | rfl | (simp; done) | (simp [*]; done) | (simp [wrap64]; done)), H', ⟨by first | omega | exact Nat.le_refl _⟩, ⟨bl⟩⟩
    ·rw [if_neg c10] at H
     have c10b0 : decide (30 < (a0.size : Int)) = false := decide_eq_false c10
     have c10b1 : decide (30 < a0.size) = false := decide_eq_false (by omega)
     clear c10
     have H' := Aside0.mk H
     clear H
     go_wp2
     go_meet
     case rel => exact ⟨_, (decide ((a1.size : Int) > 30)), (by first | rfl | (simp; done) | (simp [*]; done) | (simp [wrap64]; done)), H', ⟨by first | omega | exact Nat.le_refl _⟩, ⟨bl⟩⟩
  case rest =>
   clear HC7
   try clear c1; try clear p2; try clear c4; try clear c6; try clear p6; try clear c8; try clear c9; try clear c9b0; try clear c10; try clear c10b0; try clear c10b1
   obtain ⟨kq, x37_6, rfl, HA, HJ6, HB⟩ := hcut
   cases kq with
   | zero => exact absurd HA.out (by simp [targumlaw8_Num12Prints.j0])
   | succ kj6 =>
    have H := HA.out
    clear HA
    simp only [targumlaw8_Num12Prints.j0] at H
    by_cases c11 : x37_6 = true
    ·subst c11
     have H1 : (some true) = some r := by rw [if_pos rfl] at H; exact H
     clear H
     have H := H1
     clear H1
     obtain rfl := Option.some.inj H
     go_wp2
     go_ret
     exact ⟨by first | rfl | (simp [errW_none, errW_some] <;> rfl) | (simp [*, errW_none, errW_some] <;> rfl), bl⟩
    ·replace c11 := Bool.eq_false_iff.mpr c11
     subst c11
     have H1 : ((targumlaw8_digits.f kj6 a0).bind fun t330 => ((targumlaw8_digits.f kj6 a1).bind fun t331 => ((targumref4_Add.f kj6 (⟨#[48]⟩ : ByteArray) (wrap64 (a3))).bind fun t332 => ((targumref4_Make.f kj6 a2 t330 t331 t332).bind fun bt333 => ((targumref4_Print.f kj6 bt333.1 bt333.2.1 bt333.2.2.1 bt333.2.2.2.1).bind fun t339 => ((num12_Float.f kj6 t339).bind fun bt340 => ((num12_Int.f kj6 t339).bind fun bt346 => ((targumref4_Print.f kj6 1 a2 (⟨#[]⟩ : ByteArray) (⟨#[]⟩ : ByteArray)).bind fun t348 => ((num12_Float.f kj6 t348).bind fun bt349 => ((num12_Float.f kj6 (⟨#[46, 110, 97, 110]⟩ : ByteArray)).bind fun bt355 => (if bt333.2.2.2.2 = true then (if bt340.2.2.2.2 = true then (if (bt340.1 == bt333.1 && (bt340.2.1 == bt333.2.1 && (bt340.2.2.1.toList == bt333.2.2.1.toList && (bt340.2.2.2.1.toList == bt333.2.2.2.1.toList)))) = true then (if bt346.2 = true then (some false) else (if bt349.2.2.2.2 = true then (if (bt349.1 == 1 && (bt349.2.1 == a2 && (bt349.2.2.1.toList == ([] : List UInt8) && (bt349.2.2.2.1.toList == ([] : List UInt8))))) = true then (if bt355.2.2.2.2 = true then (some (bt355.1 == 2 && (!bt355.2.1 && (bt355.2.2.1.toList == ([] : List UInt8) && (bt355.2.2.2.1.toList == ([] : List UInt8)))))) else (some false)) else (some false)) else (some false))) else (some false)) else (some false)) else (some false)))))))))))) = some r := by rw [if_neg (show ¬ (false = true) by decide)] at H; exact H
     clear H
     have H := H1
     clear H1
     replace H := Option.bind_eq_some_iff.mp H
     obtain ⟨t330, A120, H⟩ := H
     replace H : ((targumlaw8_digits.f kj6 a1).bind fun t331 => ((targumref4_Add.f kj6 (⟨#[48]⟩ : ByteArray) (wrap64 (a3))).bind fun t332 => ((targumref4_Make.f kj6 a2 t330 t331 t332).bind fun bt333 => ((targumref4_Print.f kj6 bt333.1 bt333.2.1 bt333.2.2.1 bt333.2.2.2.1).bind fun t339 => ((num12_Float.f kj6 t339).bind fun bt340 => ((num12_Int.f kj6 t339).bind fun bt346 => ((targumref4_Print.f kj6 1 a2 (⟨#[]⟩ : ByteArray) (⟨#[]⟩ : ByteArray)).bind fun t348 => ((num12_Float.f kj6 t348).bind fun bt349 => ((num12_Float.f kj6 (⟨#[46, 110, 97, 110]⟩ : ByteArray)).bind fun bt355 => (if bt333.2.2.2.2 = true then (if bt340.2.2.2.2 = true then (if (bt340.1 == bt333.1 && (bt340.2.1 == bt333.2.1 && (bt340.2.2.1.toList == bt333.2.2.1.toList && (bt340.2.2.2.1.toList == bt333.2.2.2.1.toList)))) = true then (if bt346.2 = true then (some false) else (if bt349.2.2.2.2 = true then (if (bt349.1 == 1 && (bt349.2.1 == a2 && (bt349.2.2.1.toList == ([] : List UInt8) && (bt349.2.2.2.1.toList == ([] : List UInt8))))) = true then (if bt355.2.2.2.2 = true then (some (bt355.1 == 2 && (!bt355.2.1 && (bt355.2.2.1.toList == ([] : List UInt8) && (bt355.2.2.2.1.toList == ([] : List UInt8)))))) else (some false)) else (some false)) else (some false))) else (some false)) else (some false)) else (some false))))))))))) = some r := H
     have A12 := Aside0.mk A120
     clear A120
     replace H := Option.bind_eq_some_iff.mp H
     obtain ⟨t331, A130, H⟩ := H
     replace H : ((targumref4_Add.f kj6 (⟨#[48]⟩ : ByteArray) (wrap64 (a3))).bind fun t332 => ((targumref4_Make.f kj6 a2 t330 t331 t332).bind fun bt333 => ((targumref4_Print.f kj6 bt333.1 bt333.2.1 bt333.2.2.1 bt333.2.2.2.1).bind fun t339 => ((num12_Float.f kj6 t339).bind fun bt340 => ((num12_Int.f kj6 t339).bind fun bt346 => ((targumref4_Print.f kj6 1 a2 (⟨#[]⟩ : ByteArray) (⟨#[]⟩ : ByteArray)).bind fun t348 => ((num12_Float.f kj6 t348).bind fun bt349 => ((num12_Float.f kj6 (⟨#[46, 110, 97, 110]⟩ : ByteArray)).bind fun bt355 => (if bt333.2.2.2.2 = true then (if bt340.2.2.2.2 = true then (if (bt340.1 == bt333.1 && (bt340.2.1 == bt333.2.1 && (bt340.2.2.1.toList == bt333.2.2.1.toList && (bt340.2.2.2.1.toList == bt333.2.2.2.1.toList)))) = true then (if bt346.2 = true then (some false) else (if bt349.2.2.2.2 = true then (if (bt349.1 == 1 && (bt349.2.1 == a2 && (bt349.2.2.1.toList == ([] : List UInt8) && (bt349.2.2.2.1.toList == ([] : List UInt8))))) = true then (if bt355.2.2.2.2 = true then (some (bt355.1 == 2 && (!bt355.2.1 && (bt355.2.2.1.toList == ([] : List UInt8) && (bt355.2.2.2.1.toList == ([] : List UInt8)))))) else (some false)) else (some false)) else (some false))) else (some false)) else (some false)) else (some false)))))))))) = some r := H
     have A13 := Aside0.mk A130
     clear A130
     replace H := Option.bind_eq_some_iff.mp H
     obtain ⟨t332, A140, H⟩ := H
     replace H : ((targumref4_Make.f kj6 a2 t330 t331 t332).bind fun bt333 => ((targumref4_Print.f kj6 bt333.1 bt333.2.1 bt333.2.2.1 bt333.2.2.2.1).bind fun t339 => ((num12_Float.f kj6 t339).bind fun bt340 => ((num12_Int.f kj6 t339).bind fun bt346 => ((targumref4_Print.f kj6 1 a2 (⟨#[]⟩ : ByteArray) (⟨#[]⟩ : ByteArray)).bind fun t348 => ((num12_Float.f kj6 t348).bind fun bt349 => ((num12_Float.f kj6 (⟨#[46, 110, 97, 110]⟩ : ByteArray)).bind fun bt355 => (if bt333.2.2.2.2 = true then (if bt340.2.2.2.2 = true then (if (bt340.1 == bt333.1 && (bt340.2.1 == bt333.2.1 && (bt340.2.2.1.toList == bt333.2.2.1.toList && (bt340.2.2.2.1.toList == bt333.2.2.2.1.toList)))) = true then (if bt346.2 = true then (some false) else (if bt349.2.2.2.2 = true then (if (bt349.1 == 1 && (bt349.2.1 == a2 && (bt349.2.2.1.toList == ([] : List UInt8) && (bt349.2.2.2.1.toList == ([] : List UInt8))))) = true then (if bt355.2.2.2.2 = true then (some (bt355.1 == 2 && (!bt355.2.1 && (bt355.2.2.1.toList == ([] : List UInt8) && (bt355.2.2.2.1.toList == ([] : List UInt8)))))) else (some false)) else (some false)) else (some false))) else (some false)) else (some false)) else (some false))))))))) = some r := H
     have A14 := Aside0.mk A140
     clear A140
     replace H := Option.bind_eq_some_iff.mp H
     obtain ⟨⟨t333, t334, t335, t336, t337⟩, A150, H⟩ := H
     replace H : ((targumref4_Print.f kj6 t333 t334 t335 t336).bind fun t339 => ((num12_Float.f kj6 t339).bind fun bt340 => ((num12_Int.f kj6 t339).bind fun bt346 => ((targumref4_Print.f kj6 1 a2 (⟨#[]⟩ : ByteArray) (⟨#[]⟩ : ByteArray)).bind fun t348 => ((num12_Float.f kj6 t348).bind fun bt349 => ((num12_Float.f kj6 (⟨#[46, 110, 97, 110]⟩ : ByteArray)).bind fun bt355 => (if t337 = true then (if bt340.2.2.2.2 = true then (if (bt340.1 == t333 && (bt340.2.1 == t334 && (bt340.2.2.1.toList == t335.toList && (bt340.2.2.2.1.toList == t336.toList)))) = true then (if bt346.2 = true then (some false) else (if bt349.2.2.2.2 = true then (if (bt349.1 == 1 && (bt349.2.1 == a2 && (bt349.2.2.1.toList == ([] : List UInt8) && (bt349.2.2.2.1.toList == ([] : List UInt8))))) = true then (if bt355.2.2.2.2 = true then (some (bt355.1 == 2 && (!bt355.2.1 && (bt355.2.2.1.toList == ([] : List UInt8) && (bt355.2.2.2.1.toList == ([] : List UInt8)))))) else (some false)) else (some false)) else (some false))) else (some false)) else (some false)) else (some false)))))))) = some r := H
     have A15 := Aside0.mk A150
     clear A150
     replace H := Option.bind_eq_some_iff.mp H
     obtain ⟨t339, A160, H⟩ := H
     replace H : ((num12_Float.f kj6 t339).bind fun bt340 => ((num12_Int.f kj6 t339).bind fun bt346 => ((targumref4_Print.f kj6 1 a2 (⟨#[]⟩ : ByteArray) (⟨#[]⟩ : ByteArray)).bind fun t348 => ((num12_Float.f kj6 t348).bind fun bt349 => ((num12_Float.f kj6 (⟨#[46, 110, 97, 110]⟩ : ByteArray)).bind fun bt355 => (if t337 = true then (if bt340.2.2.2.2 = true then (if (bt340.1 == t333 && (bt340.2.1 == t334 && (bt340.2.2.1.toList == t335.toList && (bt340.2.2.2.1.toList == t336.toList)))) = true then (if bt346.2 = true then (some false) else (if bt349.2.2.2.2 = true then (if (bt349.1 == 1 && (bt349.2.1 == a2 && (bt349.2.2.1.toList == ([] : List UInt8) && (bt349.2.2.2.1.toList == ([] : List UInt8))))) = true then (if bt355.2.2.2.2 = true then (some (bt355.1 == 2 && (!bt355.2.1 && (bt355.2.2.1.toList == ([] : List UInt8) && (bt355.2.2.2.1.toList == ([] : List UInt8)))))) else (some false)) else (some false)) else (some false))) else (some false)) else (some false)) else (some false))))))) = some r := H
     have A16 := Aside0.mk A160
     clear A160
     replace H := Option.bind_eq_some_iff.mp H
     obtain ⟨⟨t340, t341, t342, t343, t344⟩, A170, H⟩ := H
     replace H : ((num12_Int.f kj6 t339).bind fun bt346 => ((targumref4_Print.f kj6 1 a2 (⟨#[]⟩ : ByteArray) (⟨#[]⟩ : ByteArray)).bind fun t348 => ((num12_Float.f kj6 t348).bind fun bt349 => ((num12_Float.f kj6 (⟨#[46, 110, 97, 110]⟩ : ByteArray)).bind fun bt355 => (if t337 = true then (if t344 = true then (if (t340 == t333 && (t341 == t334 && (t342.toList == t335.toList && (t343.toList == t336.toList)))) = true then (if bt346.2 = true then (some false) else (if bt349.2.2.2.2 = true then (if (bt349.1 == 1 && (bt349.2.1 == a2 && (bt349.2.2.1.toList == ([] : List UInt8) && (bt349.2.2.2.1.toList == ([] : List UInt8))))) = true then (if bt355.2.2.2.2 = true then (some (bt355.1 == 2 && (!bt355.2.1 && (bt355.2.2.1.toList == ([] : List UInt8) && (bt355.2.2.2.1.toList == ([] : List UInt8)))))) else (some false)) else (some false)) else (some false))) else (some false)) else (some false)) else (some false)))))) = some r := H
     have A17 := Aside0.mk A170
     clear A170
     replace H := Option.bind_eq_some_iff.mp H
     obtain ⟨⟨t346, t347⟩, A180, H⟩ := H
     replace H : ((targumref4_Print.f kj6 1 a2 (⟨#[]⟩ : ByteArray) (⟨#[]⟩ : ByteArray)).bind fun t348 => ((num12_Float.f kj6 t348).bind fun bt349 => ((num12_Float.f kj6 (⟨#[46, 110, 97, 110]⟩ : ByteArray)).bind fun bt355 => (if t337 = true then (if t344 = true then (if (t340 == t333 && (t341 == t334 && (t342.toList == t335.toList && (t343.toList == t336.toList)))) = true then (if t347 = true then (some false) else (if bt349.2.2.2.2 = true then (if (bt349.1 == 1 && (bt349.2.1 == a2 && (bt349.2.2.1.toList == ([] : List UInt8) && (bt349.2.2.2.1.toList == ([] : List UInt8))))) = true then (if bt355.2.2.2.2 = true then (some (bt355.1 == 2 && (!bt355.2.1 && (bt355.2.2.1.toList == ([] : List UInt8) && (bt355.2.2.2.1.toList == ([] : List UInt8)))))) else (some false)) else (some false)) else (some false))) else (some false)) else (some false)) else (some false))))) = some r := H
     have A18 := Aside0.mk A180
     clear A180
     replace H := Option.bind_eq_some_iff.mp H
     obtain ⟨t348, A190, H⟩ := H
     replace H : ((num12_Float.f kj6 t348).bind fun bt349 => ((num12_Float.f kj6 (⟨#[46, 110, 97, 110]⟩ : ByteArray)).bind fun bt355 => (if t337 = true then (if t344 = true then (if (t340 == t333 && (t341 == t334 && (t342.toList == t335.toList && (t343.toList == t336.toList)))) = true then (if t347 = true then (some false) else (if bt349.2.2.2.2 = true then (if (bt349.1 == 1 && (bt349.2.1 == a2 && (bt349.2.2.1.toList == ([] : List UInt8) && (bt349.2.2.2.1.toList == ([] : List UInt8))))) = true then (if bt355.2.2.2.2 = true then (some (bt355.1 == 2 && (!bt355.2.1 && (bt355.2.2.1.toList == ([] : List UInt8) && (bt355.2.2.2.1.toList == ([] : List UInt8)))))) else (some false)) else (some false)) else (some false))) else (some false)) else (some false)) else (some false)))) = some r := H
     have A19 := Aside0.mk A190
     clear A190
     replace H := Option.bind_eq_some_iff.mp H
     obtain ⟨⟨t349, t350, t351, t352, t353⟩, A200, H⟩ := H
     replace H : ((num12_Float.f kj6 (⟨#[46, 110, 97, 110]⟩ : ByteArray)).bind fun bt355 => (if t337 = true then (if t344 = true then (if (t340 == t333 && (t341 == t334 && (t342.toList == t335.toList && (t343.toList == t336.toList)))) = true then (if t347 = true then (some false) else (if t353 = true then (if (t349 == 1 && (t350 == a2 && (t351.toList == ([] : List UInt8) && (t352.toList == ([] : List UInt8))))) = true then (if bt355.2.2.2.2 = true then (some (bt355.1 == 2 && (!bt355.2.1 && (bt355.2.2.1.toList == ([] : List UInt8) && (bt355.2.2.2.1.toList == ([] : List UInt8)))))) else (some false)) else (some false)) else (some false))) else (some false)) else (some false)) else (some false))) = some r := H
     have A20 := Aside0.mk A200
     clear A200
     replace H := Option.bind_eq_some_iff.mp H
     obtain ⟨⟨t355, t356, t357, t358, t359⟩, A210, H⟩ := H
     replace H : (if t337 = true then (if t344 = true then (if (t340 == t333 && (t341 == t334 && (t342.toList == t335.toList && (t343.toList == t336.toList)))) = true then (if t347 = true then (some false) else (if t353 = true then (if (t349 == 1 && (t350 == a2 && (t351.toList == ([] : List UInt8) && (t352.toList == ([] : List UInt8))))) = true then (if t359 = true then (some (t355 == 2 && (!t356 && (t357.toList == ([] : List UInt8) && (t358.toList == ([] : List UInt8)))))) else (some false)) else (some false)) else (some false))) else (some false)) else (some false)) else (some false)) = some r := H
     have A21 := Aside0.mk A210
     clear A210
     by_cases c22 : t337 = true
     ·subst c22
      have H1 : (if t344 = true then (if (t340 == t333 && (t341 == t334 && (t342.toList == t335.toList && (t343.toList == t336.toList)))) = true then (if t347 = true then (some false) else (if t353 = true then (if (t349 == 1 && (t350 == a2 && (t351.toList == ([] : List UInt8) && (t352.toList == ([] : List UInt8))))) = true then (if t359 = true then (some (t355 == 2 && (!t356 && (t357.toList == ([] : List UInt8) && (t358.toList == ([] : List UInt8)))))) else (some false)) else (some false)) else (some false))) else (some false)) else (some false)) = some r := by rw [if_pos rfl] at H; exact H
      clear H
      have H := H1
      clear H1
      refine Classical.byCases (p := (t344 = true)) (fun c23 => ?x6) (fun c23 => ?y6)
      case' x6 =>
       subst c23
       have H1 : (if (t340 == t333 && (t341 == t334 && (t342.toList == t335.toList && (t343.toList == t336.toList)))) = true then (if t347 = true then (some false) else (if t353 = true then (if (t349 == 1 && (t350 == a2 && (t351.toList == ([] : List UInt8) && (t352.toList == ([] : List UInt8))))) = true then (if t359 = true then (some (t355 == 2 && (!t356 && (t357.toList == ([] : List UInt8) && (t358.toList == ([] : List UInt8)))))) else (some false)) else (some false)) else (some false))) else (some false)) = some r := by rw [if_pos rfl] at H; exact H
       clear H
       have H := H1
       clear H1
       refine Classical.byCases (p := ((t340 == t333 && (t341 == t334 && (t342.toList == t335.toList && (t343.toList == t336.toList)))) = true)) (fun c24 => ?x7) (fun c24 => ?y7)
       case' x7 =>
        rw [if_pos c24] at H
        have c24b0 : (t340 == t333 && (t341 == t334 && (t342.toList == t335.toList && (t343.toList == t336.toList)))) = true := c24
        (try (have c24b1 : decide (t340 = t333 && (t341 == t334 && (t342.toList == t335.toList && (t343.toList == t336.toList)))) = true := by simpa using c24))
        (try (have c24b2 : (t340 == t333 && (t341 == t334 && (t342.toList == t335.toList && (t343.toList == t336.toList)))) = true := by simpa using c24))
        clear c24
        refine Classical.byCases (p := (t347 = true)) (fun c25 => ?x8) (fun c25 => ?y8)
        case' x8 =>
         subst c25
         have H1 : (some false) = some r := by rw [if_pos rfl] at H; exact H
         clear H
         have H := H1
         clear H1
         obtain rfl := Option.some.inj H
         skip
        case' y8 =>
         replace c25 := Bool.eq_false_iff.mpr c25
         subst c25
         have H1 : (if t353 = true then (if (t349 == 1 && (t350 == a2 && (t351.toList == ([] : List UInt8) && (t352.toList == ([] : List UInt8))))) = true then (if t359 = true then (some (t355 == 2 && (!t356 && (t357.toList == ([] : List UInt8) && (t358.toList == ([] : List UInt8)))))) else (some false)) else (some false)) else (some false)) = some r := by rw [if_neg (show ¬ (false = true) by decide)] at H; exact H
         clear H
         have H := H1
         clear H1
         refine Classical.byCases (p := (t353 = true)) (fun c52 => ?x9) (fun c52 => ?y9)
         case' x9 =>
          subst c52
          have H1 : (if (t349 == 1 && (t350 == a2 && (t351.toList == ([] : List UInt8) && (t352.toList == ([] : List UInt8))))) = true then (if t359 = true then (some (t355 == 2 && (!t356 && (t357.toList == ([] : List UInt8) && (t358.toList == ([] : List UInt8)))))) else (some false)) else (some false)) = some r := by rw [if_pos rfl] at H; exact H
          clear H
          have H := H1
          clear H1
          refine Classical.byCases (p := ((t349 == 1 && (t350 == a2 && (t351.toList == ([] : List UInt8) && (t352.toList == ([] : List UInt8))))) = true)) (fun c53 => ?x10) (fun c53 => ?y10)
          case' x10 =>
           rw [if_pos c53] at H
           have c53b0 : (t349 == 1 && (t350 == a2 && (t351.toList == ([] : List UInt8) && (t352.toList == ([] : List UInt8))))) = true := c53
           (try (have c53b4 : (t349 == 1 && (t350 == a2 && (t351.toList.isEmpty && (t352.toList.isEmpty)))) = true := by simpa using c53b0))
           (try (have c53b1 : decide (t349 = 1 && (t350 == a2 && (t351.toList == ([] : List UInt8) && (t352.toList == ([] : List UInt8))))) = true := by simpa using c53))
           (try (have c53b2 : (t349 == 1 && (t350 == a2 && (t351.toList == ([] : List UInt8) && (t352.toList == ([] : List UInt8))))) = true := by simpa using c53))
           clear c53
           refine Classical.byCases (p := (t359 = true)) (fun c54 => ?x11) (fun c54 => ?y11)
           case' x11 =>
            subst c54
            have H1 : (some (t355 == 2 && (!t356 && (t357.toList == ([] : List UInt8) && (t358.toList == ([] : List UInt8)))))) = some r := by rw [if_pos rfl] at H; exact H
            clear H
            have H := H1
            clear H1
            obtain rfl := Option.some.inj H
            skip
           case' y11 =>
            replace c54 := Bool.eq_false_iff.mpr c54
            subst c54
            have H1 : (some false) = some r := by rw [if_neg (show ¬ (false = true) by decide)] at H; exact H
            clear H
            have H := H1
            clear H1
            obtain rfl := Option.some.inj H
            skip
          case' y10 =>
           rw [if_neg c53] at H
           have c53b0 : (t349 == 1 && (t350 == a2 && (t351.toList == ([] : List UInt8) && (t352.toList == ([] : List UInt8))))) = false := by simpa using c53
           (try (have c53b4 : (t349 == 1 && (t350 == a2 && (t351.toList.isEmpty && (t352.toList.isEmpty)))) = false := by simpa using c53b0))
           (try (have c53b1 : decide (t349 = 1 && (t350 == a2 && (t351.toList == ([] : List UInt8) && (t352.toList == ([] : List UInt8))))) = false := by simpa using c53))
           (try (have c53b2 : (t349 == 1 && (t350 == a2 && (t351.toList == ([] : List UInt8) && (t352.toList == ([] : List UInt8))))) = false := by simpa using c53))
           (try (have c53b3 : ¬ (t349 = 1 && (t350 == a2 && (t351.toList == ([] : List UInt8) && (t352.toList == ([] : List UInt8))))) := by simpa using c53))
           clear c53
           obtain rfl := Option.some.inj H
           skip
         case' y9 =>
          replace c52 := Bool.eq_false_iff.mpr c52
          subst c52
          have H1 : (some false) = some r := by rw [if_neg (show ¬ (false = true) by decide)] at H; exact H
          clear H
          have H := H1
          clear H1
          obtain rfl := Option.some.inj H
          skip
       case' y7 =>
        rw [if_neg c24] at H
        have c24b0 : (t340 == t333 && (t341 == t334 && (t342.toList == t335.toList && (t343.toList == t336.toList)))) = false := by simpa using c24
        (try (have c24b1 : decide (t340 = t333 && (t341 == t334 && (t342.toList == t335.toList && (t343.toList == t336.toList)))) = false := by simpa using c24))
        (try (have c24b2 : (t340 == t333 && (t341 == t334 && (t342.toList == t335.toList && (t343.toList == t336.toList)))) = false := by simpa using c24))
        (try (have c24b3 : ¬ (t340 = t333 && (t341 == t334 && (t342.toList == t335.toList && (t343.toList == t336.toList)))) := by simpa using c24))
        clear c24
        obtain rfl := Option.some.inj H
        skip
      case' y6 =>
       replace c23 := Bool.eq_false_iff.mpr c23
       subst c23
       have H1 : (some false) = some r := by rw [if_neg (show ¬ (false = true) by decide)] at H; exact H
       clear H
       have H := H1
       clear H1
       obtain rfl := Option.some.inj H
       skip
      case x8 | x11 | y11 | y10 | y9 | y7 | y6 =>
       as_aux_lemma =>
        go_wp2_with (first | ((with_reducible refine gate_callee (f := 14) rfl ?_); refine goesL_ (some 41) rfl rfl Tryd.func14 (by kernel_rfl) rfl #[.string a0] rfl (by (try simp only [List.map_toArray, List.map_cons, List.map_nil]); first | done | rfl | (simp only [List.length_drop, List.length_take]; rfl)) ?_; (with_reducible refine (targumlaw8_digits.calls _ _ _ _ A12.out).mono ?_); rintro e w109 ⟨rfl, hb⟩; refine ⟨_, rfl, ?_⟩; have n0_ := Aside0.mk (below_step bl hb); clear HB; have HB := n0_; clear n0_; (try clear hb); (try clear hb2); (try clear hk); (try clear hi)) | ((with_reducible refine gate_callee (f := 14) rfl ?_); refine goesL_ (some 43) rfl rfl Tryd.func14 (by kernel_rfl) rfl #[.string a1] rfl (by (try simp only [List.map_toArray, List.map_cons, List.map_nil]); first | done | rfl | (simp only [List.length_drop, List.length_take]; rfl)) ?_; (with_reducible refine (targumlaw8_digits.calls _ _ _ _ A13.out).mono ?_); rintro e w110 ⟨rfl, hb⟩; refine ⟨_, rfl, ?_⟩; have n0_ := Aside0.mk (below_step bl hb); clear HB; have HB := n0_; clear n0_; (try clear hb); (try clear hb2); (try clear hk); (try clear hi)) | ((with_reducible refine gate_callee (f := 15) rfl ?_); refine goesL_ (some 46) rfl rfl Tryd.func15 (by kernel_rfl) rfl #[.string (⟨#[48]⟩ : ByteArray), .int .i64 (wrap64 (a3))] rfl (by (try simp only [List.map_toArray, List.map_cons, List.map_nil]); first | done | rfl | (simp only [List.length_drop, List.length_take]; rfl)) ?_; (with_reducible refine (targumref4_Add.calls _ _ _ _ _ A14.out).mono ?_); rintro e w111 ⟨rfl, hb⟩; refine ⟨_, rfl, ?_⟩; have n0_ := Aside0.mk (below_step bl hb); clear HB; have HB := n0_; clear n0_; (try clear hb); (try clear hb2); (try clear hk); (try clear hi)) | ((with_reducible refine gate_callee (f := 13) rfl ?_); refine goesL_ (some 47) rfl rfl Tryd.func13 (by kernel_rfl) rfl #[.bool a2, .string t330, .string t331, .string t332] rfl (by (try simp only [List.map_toArray, List.map_cons, List.map_nil]); first | done | rfl | (simp only [List.length_drop, List.length_take]; rfl)) ?_; (with_reducible refine (targumref4_Make.calls _ _ _ _ _ _ _ _ _ _ _ A15.out).mono ?_); rintro e w112 ⟨rfl, hb⟩; refine ⟨_, rfl, ?_⟩; have n0_ := Aside0.mk (below_step bl hb); clear HB; have HB := n0_; clear n0_; (try clear hb); (try clear hb2); (try clear hk); (try clear hi)) | ((with_reducible refine gate_dst (N := 9) rfl ?_); (try (refine gate_guard (by rfl) ?_; dsimp only)); refine box_event ?hg (N := 9) ?hd (cs := #[.int .i64 0, .bool false, .string (⟨#[]⟩ : ByteArray), .string (⟨#[]⟩ : ByteArray)]) (t := 28) ?hr ?_; (case hd => rfl); (case hg => rfl); (case hr => first | (go_simp; done) | (go_simp; rfl)); intro gb338 hg w113 hbox hb; have n0_ := Aside0.mk (below_step bl hb); have n1_ := Aside0.mk (hbox); have n2_ := Aside0.mk ((by rw [hg]; exact (below_size bl) : w.heap.size ≤ gb338)); have n3_ := Aside0.mk ((by rw [hg]; exact (below_size bl) : w.heap.size ≤ gb338)); clear HB; have HB := n0_; have BK338 := n1_; have GW338 := n2_; have GE338 := n3_; clear n0_ n1_ n2_ n3_; clear hb hbox hg; have hcz114_0 : w113.cell? ⟨gb338, 0, none⟩ = some (.int .i64 0) := (blk_cell BK338.out 0).trans rfl; have hcz114_1 : w113.cell? ⟨gb338, 1, none⟩ = some (.bool false) := (blk_cell BK338.out 1).trans rfl; have hcz114_2 : w113.cell? ⟨gb338, 2, none⟩ = some (.string (⟨#[]⟩ : ByteArray)) := (blk_cell BK338.out 2).trans rfl; have hcz114_3 : w113.cell? ⟨gb338, 3, none⟩ = some (.string (⟨#[]⟩ : ByteArray)) := (blk_cell BK338.out 3).trans rfl; have hfz114_0 := blk_frozen BK338.out 0; have hfz114_1 := blk_frozen BK338.out 1; have hfz114_2 := blk_frozen BK338.out 2; have hfz114_3 := blk_frozen BK338.out 3) | ((with_reducible refine gate_callee (f := 16) rfl ?_); refine goesL_ (some 51) rfl rfl Tryd.func16 (by kernel_rfl) rfl #[.agg #[.int .i64 t333, .bool t334, .string t335, .string t336]] rfl (by (try simp only [List.map_toArray, List.map_cons, List.map_nil]); first | done | rfl | (simp only [List.length_drop, List.length_take]; rfl)) ?_; (with_reducible refine (targumref4_Print.calls _ _ _ _ _ _ _ A16.out).mono ?_); rintro e w115 ⟨rfl, hb⟩; refine ⟨_, rfl, ?_⟩; have n0_ := Aside0.mk (blk_below (g := gb338) (o := .cells #[.int .i64 t333, .bool t334, .string t335, .string t336] 28 (0, 0)) bk hb); have n1_ := Aside0.mk (below_step bl hb); clear BK338; clear HB; have BK338 := n0_; have HB := n1_; clear n0_ n1_; (try clear hb); (try clear hb2); (try clear hk); (try clear hi)) | ((with_reducible refine gate_callee (f := 11) rfl ?_); refine goesL_ (some 54) rfl rfl Tryd.func11 (by kernel_rfl) rfl #[.string t339] rfl (by (try simp only [List.map_toArray, List.map_cons, List.map_nil]); first | done | rfl | (simp only [List.length_drop, List.length_take]; rfl)) ?_; (with_reducible refine (num12_Float.calls _ _ _ _ _ _ _ _ ?side1 A17.out).mono ?_); (case side1 => exact Go.Proofs.YtbjlcipamdgnjaaDoor.Room.PowTab_below HG.out bl); rintro e w116 ⟨rfl, hb⟩; refine ⟨_, rfl, ?_⟩; have n0_ := Aside0.mk (blk_below (g := gb338) (o := .cells #[.int .i64 t333, .bool t334, .string t335, .string t336] 28 (0, 0)) bk hb); have n1_ := Aside0.mk (below_step bl hb); clear BK338; clear HB; have BK338 := n0_; have HB := n1_; clear n0_ n1_; (try clear hb); (try clear hb2); (try clear hk); (try clear hi)) | ((with_reducible refine gate_dst (N := 12) rfl ?_); (try (refine gate_guard (by rfl) ?_; dsimp only)); refine box_event ?hg (N := 12) ?hd (cs := #[.int .i64 0, .bool false, .string (⟨#[]⟩ : ByteArray), .string (⟨#[]⟩ : ByteArray)]) (t := 28) ?hr ?_; (case hd => rfl); (case hg => rfl); (case hr => first | (go_simp; done) | (go_simp; rfl)); intro gb345 hg w117 hbox hb; have n0_ := Aside0.mk (blk_below (g := gb338) (o := .cells #[.int .i64 t333, .bool t334, .string t335, .string t336] 28 (0, 0)) bk hb); have n1_ := Aside0.mk (below_step bl hb); have n2_ := Aside0.mk (hbox); have n3_ := Aside0.mk ((by rw [hg]; exact (below_size bl) : w.heap.size ≤ gb345)); have n4_ := Aside0.mk ((by rw [hg]; exact (below_size bl) : w.heap.size ≤ gb345)); have n5_ := Aside0.mk ((by rw [hg]; exact Nat.ne_of_lt (blk_lt (g := gb338) (o := .cells #[.int .i64 t333, .bool t334, .string t335, .string t336] 28 (0, 0)) bk) : gb338 ≠ gb345)); have n6_ := Aside0.mk ((by rw [hg]; exact Nat.ne_of_gt (blk_lt (g := gb338) (o := .cells #[.int .i64 t333, .bool t334, .string t335, .string t336] 28 (0, 0)) bk) : gb345 ≠ gb338)); clear BK338; clear HB; have BK338 := n0_; have HB := n1_; have BK345 := n2_; have GW345 := n3_; have GE345 := n4_; have NB338_345 := n5_; have NB345_338 := n6_; clear n0_ n1_ n2_ n3_ n4_ n5_ n6_; clear hb hbox hg; have hnb118 := NB345_338.out; have hnc118 := NB338_345.out; have hcz119_0 : w117.cell? ⟨gb345, 0, none⟩ = some (.int .i64 0) := (blk_cell BK345.out 0).trans rfl; have hcz119_1 : w117.cell? ⟨gb345, 1, none⟩ = some (.bool false) := (blk_cell BK345.out 1).trans rfl; have hcz119_2 : w117.cell? ⟨gb345, 2, none⟩ = some (.string (⟨#[]⟩ : ByteArray)) := (blk_cell BK345.out 2).trans rfl; have hcz119_3 : w117.cell? ⟨gb345, 3, none⟩ = some (.string (⟨#[]⟩ : ByteArray)) := (blk_cell BK345.out 3).trans rfl; have hfz119_0 := blk_frozen BK345.out 0; have hfz119_1 := blk_frozen BK345.out 1; have hfz119_2 := blk_frozen BK345.out 2; have hfz119_3 := blk_frozen BK345.out 3) | ((with_reducible refine gate_callee (f := 9) rfl ?_); refine goesL_ (some 59) rfl rfl Tryd.func9 (by kernel_rfl) rfl #[.string t339] rfl (by (try simp only [List.map_toArray, List.map_cons, List.map_nil]); first | done | rfl | (simp only [List.length_drop, List.length_take]; rfl)) ?_; (with_reducible refine (num12_Int.calls _ _ _ _ _ ?side1 A18.out).mono ?_); (case side1 => exact Go.Proofs.YtbjlcipamdgnjaaDoor.Room.PowTab_below HG.out bl); rintro e w120 ⟨rfl, hb⟩; refine ⟨_, rfl, ?_⟩; have n0_ := Aside0.mk (blk_below (g := gb338) (o := .cells #[.int .i64 t333, .bool t334, .string t335, .string t336] 28 (0, 0)) bk hb); have n1_ := Aside0.mk (blk_below (g := gb345) (o := .cells #[.int .i64 t340, .bool t341, .string t342, .string t343] 28 (0, 0)) bk hb); have n2_ := Aside0.mk (below_step bl hb); clear BK338; clear BK345; clear HB; have BK338 := n0_; have BK345 := n1_; have HB := n2_; clear n0_ n1_ n2_; (try clear hb); (try clear hb2); (try clear hk); (try clear hi)) | ((with_reducible refine gate_callee (f := 16) rfl ?_); refine goesL_ (some 65) rfl rfl Tryd.func16 (by kernel_rfl) rfl #[.agg #[.int .i64 1, .bool a2, .string (⟨#[]⟩ : ByteArray), .string (⟨#[]⟩ : ByteArray)]] rfl (by (try simp only [List.map_toArray, List.map_cons, List.map_nil]); first | done | rfl | (simp only [List.length_drop, List.length_take]; rfl)) ?_; (with_reducible refine (targumref4_Print.calls _ _ _ _ _ _ _ A19.out).mono ?_); rintro e w121 ⟨rfl, hb⟩; refine ⟨_, rfl, ?_⟩; have n0_ := Aside0.mk (blk_below (g := gb338) (o := .cells #[.int .i64 t333, .bool t334, .string t335, .string t336] 28 (0, 0)) bk hb); have n1_ := Aside0.mk (blk_below (g := gb345) (o := .cells #[.int .i64 t340, .bool t341, .string t342, .string t343] 28 (0, 0)) bk hb); have n2_ := Aside0.mk (below_step bl hb); clear BK338; clear BK345; clear HB; have BK338 := n0_; have BK345 := n1_; have HB := n2_; clear n0_ n1_ n2_; (try clear hb); (try clear hb2); (try clear hk); (try clear hi)) | ((with_reducible refine gate_callee (f := 11) rfl ?_); refine goesL_ (some 66) rfl rfl Tryd.func11 (by kernel_rfl) rfl #[.string t348] rfl (by (try simp only [List.map_toArray, List.map_cons, List.map_nil]); first | done | rfl | (simp only [List.length_drop, List.length_take]; rfl)) ?_; (with_reducible refine (num12_Float.calls _ _ _ _ _ _ _ _ ?side1 A20.out).mono ?_); (case side1 => exact Go.Proofs.YtbjlcipamdgnjaaDoor.Room.PowTab_below HG.out bl); rintro e w122 ⟨rfl, hb⟩; refine ⟨_, rfl, ?_⟩; have n0_ := Aside0.mk (blk_below (g := gb338) (o := .cells #[.int .i64 t333, .bool t334, .string t335, .string t336] 28 (0, 0)) bk hb); have n1_ := Aside0.mk (blk_below (g := gb345) (o := .cells #[.int .i64 t340, .bool t341, .string t342, .string t343] 28 (0, 0)) bk hb); have n2_ := Aside0.mk (below_step bl hb); clear BK338; clear BK345; clear HB; have BK338 := n0_; have BK345 := n1_; have HB := n2_; clear n0_ n1_ n2_; (try clear hb); (try clear hb2); (try clear hk); (try clear hi)) | ((with_reducible refine gate_dst (N := 16) rfl ?_); (try (refine gate_guard (by rfl) ?_; dsimp only)); refine box_event ?hg (N := 16) ?hd (cs := #[.int .i64 0, .bool false, .string (⟨#[]⟩ : ByteArray), .string (⟨#[]⟩ : ByteArray)]) (t := 28) ?hr ?_; (case hd => rfl); (case hg => rfl); (case hr => first | (go_simp; done) | (go_simp; rfl)); intro gb354 hg w123 hbox hb; have n0_ := Aside0.mk (blk_below (g := gb338) (o := .cells #[.int .i64 t333, .bool t334, .string t335, .string t336] 28 (0, 0)) bk hb); have n1_ := Aside0.mk (blk_below (g := gb345) (o := .cells #[.int .i64 t340, .bool t341, .string t342, .string t343] 28 (0, 0)) bk hb); have n2_ := Aside0.mk (below_step bl hb); have n3_ := Aside0.mk (hbox); have n4_ := Aside0.mk ((by rw [hg]; exact (below_size bl) : w.heap.size ≤ gb354)); have n5_ := Aside0.mk ((by rw [hg]; exact (below_size bl) : w.heap.size ≤ gb354)); have n6_ := Aside0.mk ((by rw [hg]; exact Nat.ne_of_lt (blk_lt (g := gb338) (o := .cells #[.int .i64 t333, .bool t334, .string t335, .string t336] 28 (0, 0)) bk) : gb338 ≠ gb354)); have n7_ := Aside0.mk ((by rw [hg]; exact Nat.ne_of_gt (blk_lt (g := gb338) (o := .cells #[.int .i64 t333, .bool t334, .string t335, .string t336] 28 (0, 0)) bk) : gb354 ≠ gb338)); have n8_ := Aside0.mk ((by rw [hg]; exact Nat.ne_of_lt (blk_lt (g := gb345) (o := .cells #[.int .i64 t340, .bool t341, .string t342, .string t343] 28 (0, 0)) bk) : gb345 ≠ gb354)); have n9_ := Aside0.mk ((by rw [hg]; exact Nat.ne_of_gt (blk_lt (g := gb345) (o := .cells #[.int .i64 t340, .bool t341, .string t342, .string t343] 28 (0, 0)) bk) : gb354 ≠ gb345)); clear BK338; clear BK345; clear HB; have BK338 := n0_; have BK345 := n1_; have HB := n2_; have BK354 := n3_; have GW354 := n4_; have GE354 := n5_; have NB338_354 := n6_; have NB354_338 := n7_; have NB345_354 := n8_; have NB354_345 := n9_; clear n0_ n1_ n2_ n3_ n4_ n5_ n6_ n7_ n8_ n9_; clear hb hbox hg; have hnb124 := NB354_338.out; have hnc124 := NB338_354.out; have hnb125 := NB354_345.out; have hnc125 := NB345_354.out; have hcz126_0 : w123.cell? ⟨gb354, 0, none⟩ = some (.int .i64 0) := (blk_cell BK354.out 0).trans rfl; have hcz126_1 : w123.cell? ⟨gb354, 1, none⟩ = some (.bool false) := (blk_cell BK354.out 1).trans rfl; have hcz126_2 : w123.cell? ⟨gb354, 2, none⟩ = some (.string (⟨#[]⟩ : ByteArray)) := (blk_cell BK354.out 2).trans rfl; have hcz126_3 : w123.cell? ⟨gb354, 3, none⟩ = some (.string (⟨#[]⟩ : ByteArray)) := (blk_cell BK354.out 3).trans rfl; have hfz126_0 := blk_frozen BK354.out 0; have hfz126_1 := blk_frozen BK354.out 1; have hfz126_2 := blk_frozen BK354.out 2; have hfz126_3 := blk_frozen BK354.out 3) | ((with_reducible refine gate_callee (f := 11) rfl ?_); refine goesL_ (some 70) rfl rfl Tryd.func11 (by kernel_rfl) rfl #[.string (⟨#[46, 110, 97, 110]⟩ : ByteArray)] rfl (by (try simp only [List.map_toArray, List.map_cons, List.map_nil]); first | done | rfl | (simp only [List.length_drop, List.length_take]; rfl)) ?_; (with_reducible refine (num12_Float.calls _ _ _ _ _ _ _ _ ?side1 A21.out).mono ?_); (case side1 => exact Go.Proofs.YtbjlcipamdgnjaaDoor.Room.PowTab_below HG.out bl); rintro e w127 ⟨rfl, hb⟩; refine ⟨_, rfl, ?_⟩; have n0_ := Aside0.mk (blk_below (g := gb338) (o := .cells #[.int .i64 t333, .bool t334, .string t335, .string t336] 28 (0, 0)) bk hb); have n1_ := Aside0.mk (blk_below (g := gb345) (o := .cells #[.int .i64 t340, .bool t341, .string t342, .string t343] 28 (0, 0)) bk hb); have n2_ := Aside0.mk (blk_below (g := gb354) (o := .cells #[.int .i64 t349, .bool t350, .string t351, .string t352] 28 (0, 0)) bk hb); have n3_ := Aside0.mk (below_step bl hb); clear BK338; clear BK345; clear BK354; clear HB; have BK338 := n0_; have BK345 := n1_; have BK354 := n2_; have HB := n3_; clear n0_ n1_ n2_ n3_; (try clear hb); (try clear hb2); (try clear hk); (try clear hi)) | ((with_reducible refine gate_dst (N := 18) rfl ?_); (try (refine gate_guard (by rfl) ?_; dsimp only)); refine box_event ?hg (N := 18) ?hd (cs := #[.int .i64 0, .bool false, .string (⟨#[]⟩ : ByteArray), .string (⟨#[]⟩ : ByteArray)]) (t := 28) ?hr ?_; (case hd => rfl); (case hg => rfl); (case hr => first | (go_simp; done) | (go_simp; rfl)); intro gb360 hg w128 hbox hb; have n0_ := Aside0.mk (blk_below (g := gb338) (o := .cells #[.int .i64 t333, .bool t334, .string t335, .string t336] 28 (0, 0)) bk hb); have n1_ := Aside0.mk (blk_below (g := gb345) (o := .cells #[.int .i64 t340, .bool t341, .string t342, .string t343] 28 (0, 0)) bk hb); have n2_ := Aside0.mk (blk_below (g := gb354) (o := .cells #[.int .i64 t349, .bool t350, .string t351, .string t352] 28 (0, 0)) bk hb); have n3_ := Aside0.mk (below_step bl hb); have n4_ := Aside0.mk (hbox); have n5_ := Aside0.mk ((by rw [hg]; exact (below_size bl) : w.heap.size ≤ gb360)); have n6_ := Aside0.mk ((by rw [hg]; exact (below_size bl) : w.heap.size ≤ gb360)); have n7_ := Aside0.mk ((by rw [hg]; exact Nat.ne_of_lt (blk_lt (g := gb338) (o := .cells #[.int .i64 t333, .bool t334, .string t335, .string t336] 28 (0, 0)) bk) : gb338 ≠ gb360)); have n8_ := Aside0.mk ((by rw [hg]; exact Nat.ne_of_gt (blk_lt (g := gb338) (o := .cells #[.int .i64 t333, .bool t334, .string t335, .string t336] 28 (0, 0)) bk) : gb360 ≠ gb338)); have n9_ := Aside0.mk ((by rw [hg]; exact Nat.ne_of_lt (blk_lt (g := gb345) (o := .cells #[.int .i64 t340, .bool t341, .string t342, .string t343] 28 (0, 0)) bk) : gb345 ≠ gb360)); have n10_ := Aside0.mk ((by rw [hg]; exact Nat.ne_of_gt (blk_lt (g := gb345) (o := .cells #[.int .i64 t340, .bool t341, .string t342, .string t343] 28 (0, 0)) bk) : gb360 ≠ gb345)); have n11_ := Aside0.mk ((by rw [hg]; exact Nat.ne_of_lt (blk_lt (g := gb354) (o := .cells #[.int .i64 t349, .bool t350, .string t351, .string t352] 28 (0, 0)) bk) : gb354 ≠ gb360)); have n12_ := Aside0.mk ((by rw [hg]; exact Nat.ne_of_gt (blk_lt (g := gb354) (o := .cells #[.int .i64 t349, .bool t350, .string t351, .string t352] 28 (0, 0)) bk) : gb360 ≠ gb354)); clear BK338; clear BK345; clear BK354; clear HB; have BK338 := n0_; have BK345 := n1_; have BK354 := n2_; have HB := n3_; have BK360 := n4_; have GW360 := n5_; have GE360 := n6_; have NB338_360 := n7_; have NB360_338 := n8_; have NB345_360 := n9_; have NB360_345 := n10_; have NB354_360 := n11_; have NB360_354 := n12_; clear n0_ n1_ n2_ n3_ n4_ n5_ n6_ n7_ n8_ n9_ n10_ n11_ n12_; clear hb hbox hg; have hnb129 := NB360_338.out; have hnc129 := NB338_360.out; have hnb130 := NB360_345.out; have hnc130 := NB345_360.out; have hnb131 := NB360_354.out; have hnc131 := NB354_360.out; have hcz132_0 : w128.cell? ⟨gb360, 0, none⟩ = some (.int .i64 0) := (blk_cell BK360.out 0).trans rfl; have hcz132_1 : w128.cell? ⟨gb360, 1, none⟩ = some (.bool false) := (blk_cell BK360.out 1).trans rfl; have hcz132_2 : w128.cell? ⟨gb360, 2, none⟩ = some (.string (⟨#[]⟩ : ByteArray)) := (blk_cell BK360.out 2).trans rfl; have hcz132_3 : w128.cell? ⟨gb360, 3, none⟩ = some (.string (⟨#[]⟩ : ByteArray)) := (blk_cell BK360.out 3).trans rfl; have hfz132_0 := blk_frozen BK360.out 0; have hfz132_1 := blk_frozen BK360.out 1; have hfz132_2 := blk_frozen BK360.out 2; have hfz132_3 := blk_frozen BK360.out 3; have hcz133_0 : w128.cell? ⟨gb345, 0, none⟩ = some (.int .i64 t340) := (blk_cell BK345.out 0).trans rfl; have hcz133_1 : w128.cell? ⟨gb345, 1, none⟩ = some (.bool t341) := (blk_cell BK345.out 1).trans rfl; have hcz133_2 : w128.cell? ⟨gb345, 2, none⟩ = some (.string t342) := (blk_cell BK345.out 2).trans rfl; have hcz133_3 : w128.cell? ⟨gb345, 3, none⟩ = some (.string t343) := (blk_cell BK345.out 3).trans rfl; have hfz133_0 := blk_frozen BK345.out 0; have hfz133_1 := blk_frozen BK345.out 1; have hfz133_2 := blk_frozen BK345.out 2; have hfz133_3 := blk_frozen BK345.out 3; have hcz134_0 : w128.cell? ⟨gb338, 0, none⟩ = some (.int .i64 t333) := (blk_cell BK338.out 0).trans rfl; have hcz134_1 : w128.cell? ⟨gb338, 1, none⟩ = some (.bool t334) := (blk_cell BK338.out 1).trans rfl; have hcz134_2 : w128.cell? ⟨gb338, 2, none⟩ = some (.string t335) := (blk_cell BK338.out 2).trans rfl; have hcz134_3 : w128.cell? ⟨gb338, 3, none⟩ = some (.string t336) := (blk_cell BK338.out 3).trans rfl; have hfz134_0 := blk_frozen BK338.out 0; have hfz134_1 := blk_frozen BK338.out 1; have hfz134_2 := blk_frozen BK338.out 2; have hfz134_3 := blk_frozen BK338.out 3; have hcz135_0 : w128.cell? ⟨gb354, 0, none⟩ = some (.int .i64 t349) := (blk_cell BK354.out 0).trans rfl; have hcz135_1 : w128.cell? ⟨gb354, 1, none⟩ = some (.bool t350) := (blk_cell BK354.out 1).trans rfl; have hcz135_2 : w128.cell? ⟨gb354, 2, none⟩ = some (.string t351) := (blk_cell BK354.out 2).trans rfl; have hcz135_3 : w128.cell? ⟨gb354, 3, none⟩ = some (.string t352) := (blk_cell BK354.out 3).trans rfl; have hfz135_0 := blk_frozen BK354.out 0; have hfz135_1 := blk_frozen BK354.out 1; have hfz135_2 := blk_frozen BK354.out 2; have hfz135_3 := blk_frozen BK354.out 3))
        go_ret
        exact ⟨by first | rfl | (simp [errW_none, errW_some] <;> rfl) | (simp [*, errW_none, errW_some] <;> rfl), bl⟩
     ·replace c22 := Bool.eq_false_iff.mpr c22
      subst c22
      have H1 : (some false) = some r := by rw [if_neg (show ¬ (false = true) by decide)] at H; exact H
      clear H
      have H := H1
      clear H1
      obtain rfl := Option.some.inj H
      go_wp2_with (first | ((with_reducible refine gate_callee (f := 14) rfl ?_); refine goesL_ (some 41) rfl rfl Tryd.func14 (by kernel_rfl) rfl #[.string a0] rfl (by (try simp only [List.map_toArray, List.map_cons, List.map_nil]); first | done | rfl | (simp only [List.length_drop, List.length_take]; rfl)) ?_; (with_reducible refine (targumlaw8_digits.calls kj6 a0 t330 _ A12.out).mono ?_); rintro e w212 ⟨rfl, hb⟩; refine ⟨_, rfl, ?_⟩; have n0_ := Aside0.mk (below_step bl hb); clear HB; have HB := n0_; clear n0_; (try clear hb); (try clear hb2); (try clear hk); (try clear hi)) | ((with_reducible refine gate_callee (f := 14) rfl ?_); refine goesL_ (some 43) rfl rfl Tryd.func14 (by kernel_rfl) rfl #[.string a1] rfl (by (try simp only [List.map_toArray, List.map_cons, List.map_nil]); first | done | rfl | (simp only [List.length_drop, List.length_take]; rfl)) ?_; (with_reducible refine (targumlaw8_digits.calls kj6 a1 t331 _ A13.out).mono ?_); rintro e w213 ⟨rfl, hb⟩; refine ⟨_, rfl, ?_⟩; have n0_ := Aside0.mk (below_step bl hb); clear HB; have HB := n0_; clear n0_; (try clear hb); (try clear hb2); (try clear hk); (try clear hi)) | ((with_reducible refine gate_callee (f := 15) rfl ?_); refine goesL_ (some 46) rfl rfl Tryd.func15 (by kernel_rfl) rfl #[.string (⟨#[48]⟩ : ByteArray), .int .i64 (wrap64 (a3))] rfl (by (try simp only [List.map_toArray, List.map_cons, List.map_nil]); first | done | rfl | (simp only [List.length_drop, List.length_take]; rfl)) ?_; (with_reducible refine (targumref4_Add.calls kj6 (⟨#[48]⟩ : ByteArray) (wrap64 (a3)) t332 _ A14.out).mono ?_); rintro e w214 ⟨rfl, hb⟩; refine ⟨_, rfl, ?_⟩; have n0_ := Aside0.mk (below_step bl hb); clear HB; have HB := n0_; clear n0_; (try clear hb); (try clear hb2); (try clear hk); (try clear hi)) | ((with_reducible refine gate_callee (f := 13) rfl ?_); refine goesL_ (some 47) rfl rfl Tryd.func13 (by kernel_rfl) rfl #[.bool a2, .string t330, .string t331, .string t332] rfl (by (try simp only [List.map_toArray, List.map_cons, List.map_nil]); first | done | rfl | (simp only [List.length_drop, List.length_take]; rfl)) ?_; (with_reducible refine (targumref4_Make.calls kj6 a2 t330 t331 t332 t333 t334 t335 t336 false _ A15.out).mono ?_); rintro e w215 ⟨rfl, hb⟩; refine ⟨_, rfl, ?_⟩; have n0_ := Aside0.mk (below_step bl hb); clear HB; have HB := n0_; clear n0_; (try clear hb); (try clear hb2); (try clear hk); (try clear hi)) | ((with_reducible refine gate_dst (N := 9) rfl ?_); (try (refine gate_guard (by rfl) ?_; dsimp only)); refine box_event ?hg (N := 9) ?hd (cs := #[.int .i64 0, .bool false, .string (⟨#[]⟩ : ByteArray), .string (⟨#[]⟩ : ByteArray)]) (t := 28) ?hr ?_; (case hd => rfl); (case hg => rfl); (case hr => first | (go_simp; done) | (go_simp; rfl)); intro gb338 hg w216 hbox hb; have n0_ := Aside0.mk (below_step bl hb); have n1_ := Aside0.mk (hbox); have n2_ := Aside0.mk ((by rw [hg]; exact (below_size bl) : w.heap.size ≤ gb338)); have n3_ := Aside0.mk ((by rw [hg]; exact (below_size bl) : w.heap.size ≤ gb338)); clear HB; have HB := n0_; have BK338 := n1_; have GW338 := n2_; have GE338 := n3_; clear n0_ n1_ n2_ n3_; clear hb hbox hg; have hcz217_0 : w216.cell? ⟨gb338, 0, none⟩ = some (.int .i64 0) := (blk_cell BK338.out 0).trans rfl; have hcz217_1 : w216.cell? ⟨gb338, 1, none⟩ = some (.bool false) := (blk_cell BK338.out 1).trans rfl; have hcz217_2 : w216.cell? ⟨gb338, 2, none⟩ = some (.string (⟨#[]⟩ : ByteArray)) := (blk_cell BK338.out 2).trans rfl; have hcz217_3 : w216.cell? ⟨gb338, 3, none⟩ = some (.string (⟨#[]⟩ : ByteArray)) := (blk_cell BK338.out 3).trans rfl; have hfz217_0 := blk_frozen BK338.out 0; have hfz217_1 := blk_frozen BK338.out 1; have hfz217_2 := blk_frozen BK338.out 2; have hfz217_3 := blk_frozen BK338.out 3) | ((with_reducible refine gate_callee (f := 16) rfl ?_); refine goesL_ (some 51) rfl rfl Tryd.func16 (by kernel_rfl) rfl #[.agg #[.int .i64 t333, .bool t334, .string t335, .string t336]] rfl (by (try simp only [List.map_toArray, List.map_cons, List.map_nil]); first | done | rfl | (simp only [List.length_drop, List.length_take]; rfl)) ?_; (with_reducible refine (targumref4_Print.calls kj6 t333 t334 t335 t336 t339 _ A16.out).mono ?_); rintro e w218 ⟨rfl, hb⟩; refine ⟨_, rfl, ?_⟩; have n0_ := Aside0.mk (blk_below (g := gb338) (o := .cells #[.int .i64 t333, .bool t334, .string t335, .string t336] 28 (0, 0)) bk hb); have n1_ := Aside0.mk (below_step bl hb); clear BK338; clear HB; have BK338 := n0_; have HB := n1_; clear n0_ n1_; (try clear hb); (try clear hb2); (try clear hk); (try clear hi)) | ((with_reducible refine gate_callee (f := 11) rfl ?_); refine goesL_ (some 54) rfl rfl Tryd.func11 (by kernel_rfl) rfl #[.string t339] rfl (by (try simp only [List.map_toArray, List.map_cons, List.map_nil]); first | done | rfl | (simp only [List.length_drop, List.length_take]; rfl)) ?_; (with_reducible refine (num12_Float.calls kj6 t339 t340 t341 t342 t343 t344 _ ?side1 A17.out).mono ?_); (case side1 => exact Go.Proofs.YtbjlcipamdgnjaaDoor.Room.PowTab_below HG.out bl); rintro e w219 ⟨rfl, hb⟩; refine ⟨_, rfl, ?_⟩; have n0_ := Aside0.mk (blk_below (g := gb338) (o := .cells #[.int .i64 t333, .bool t334, .string t335, .string t336] 28 (0, 0)) bk hb); have n1_ := Aside0.mk (below_step bl hb); clear BK338; clear HB; have BK338 := n0_; have HB := n1_; clear n0_ n1_; (try clear hb); (try clear hb2); (try clear hk); (try clear hi); clear A17) | ((with_reducible refine gate_dst (N := 12) rfl ?_); (try (refine gate_guard (by rfl) ?_; dsimp only)); refine box_event ?hg (N := 12) ?hd (cs := #[.int .i64 0, .bool false, .string (⟨#[]⟩ : ByteArray), .string (⟨#[]⟩ : ByteArray)]) (t := 28) ?hr ?_; (case hd => rfl); (case hg => rfl); (case hr => first | (go_simp; done) | (go_simp; rfl)); intro gb345 hg w220 hbox hb; have n0_ := Aside0.mk (blk_below (g := gb338) (o := .cells #[.int .i64 t333, .bool t334, .string t335, .string t336] 28 (0, 0)) bk hb); have n1_ := Aside0.mk (below_step bl hb); have n2_ := Aside0.mk (hbox); have n3_ := Aside0.mk ((by rw [hg]; exact (below_size bl) : w.heap.size ≤ gb345)); have n4_ := Aside0.mk ((by rw [hg]; exact (below_size bl) : w.heap.size ≤ gb345)); have n5_ := Aside0.mk ((by rw [hg]; exact Nat.ne_of_lt (blk_lt (g := gb338) (o := .cells #[.int .i64 t333, .bool t334, .string t335, .string t336] 28 (0, 0)) bk) : gb338 ≠ gb345)); have n6_ := Aside0.mk ((by rw [hg]; exact Nat.ne_of_gt (blk_lt (g := gb338) (o := .cells #[.int .i64 t333, .bool t334, .string t335, .string t336] 28 (0, 0)) bk) : gb345 ≠ gb338)); clear BK338; clear HB; have BK338 := n0_; have HB := n1_; have BK345 := n2_; have GW345 := n3_; have GE345 := n4_; have NB338_345 := n5_; have NB345_338 := n6_; clear n0_ n1_ n2_ n3_ n4_ n5_ n6_; clear hb hbox hg; have hnb221 := NB345_338.out; have hnc221 := NB338_345.out; have hcz222_0 : w220.cell? ⟨gb345, 0, none⟩ = some (.int .i64 0) := (blk_cell BK345.out 0).trans rfl; have hcz222_1 : w220.cell? ⟨gb345, 1, none⟩ = some (.bool false) := (blk_cell BK345.out 1).trans rfl; have hcz222_2 : w220.cell? ⟨gb345, 2, none⟩ = some (.string (⟨#[]⟩ : ByteArray)) := (blk_cell BK345.out 2).trans rfl; have hcz222_3 : w220.cell? ⟨gb345, 3, none⟩ = some (.string (⟨#[]⟩ : ByteArray)) := (blk_cell BK345.out 3).trans rfl; have hfz222_0 := blk_frozen BK345.out 0; have hfz222_1 := blk_frozen BK345.out 1; have hfz222_2 := blk_frozen BK345.out 2; have hfz222_3 := blk_frozen BK345.out 3) | ((with_reducible refine gate_callee (f := 9) rfl ?_); refine goesL_ (some 59) rfl rfl Tryd.func9 (by kernel_rfl) rfl #[.string t339] rfl (by (try simp only [List.map_toArray, List.map_cons, List.map_nil]); first | done | rfl | (simp only [List.length_drop, List.length_take]; rfl)) ?_; (with_reducible refine (num12_Int.calls kj6 t339 t346 t347 _ ?side1 A18.out).mono ?_); (case side1 => exact Go.Proofs.YtbjlcipamdgnjaaDoor.Room.PowTab_below HG.out bl); rintro e w223 ⟨rfl, hb⟩; refine ⟨_, rfl, ?_⟩; have n0_ := Aside0.mk (blk_below (g := gb338) (o := .cells #[.int .i64 t333, .bool t334, .string t335, .string t336] 28 (0, 0)) bk hb); have n1_ := Aside0.mk (blk_below (g := gb345) (o := .cells #[.int .i64 t340, .bool t341, .string t342, .string t343] 28 (0, 0)) bk hb); have n2_ := Aside0.mk (below_step bl hb); clear BK338; clear BK345; clear HB; have BK338 := n0_; have BK345 := n1_; have HB := n2_; clear n0_ n1_ n2_; (try clear hb); (try clear hb2); (try clear hk); (try clear hi)) | ((with_reducible refine gate_callee (f := 16) rfl ?_); refine goesL_ (some 65) rfl rfl Tryd.func16 (by kernel_rfl) rfl #[.agg #[.int .i64 1, .bool a2, .string (⟨#[]⟩ : ByteArray), .string (⟨#[]⟩ : ByteArray)]] rfl (by (try simp only [List.map_toArray, List.map_cons, List.map_nil]); first | done | rfl | (simp only [List.length_drop, List.length_take]; rfl)) ?_; (with_reducible refine (targumref4_Print.calls kj6 1 a2 (⟨#[]⟩ : ByteArray) (⟨#[]⟩ : ByteArray) t348 _ A19.out).mono ?_); rintro e w224 ⟨rfl, hb⟩; refine ⟨_, rfl, ?_⟩; have n0_ := Aside0.mk (blk_below (g := gb338) (o := .cells #[.int .i64 t333, .bool t334, .string t335, .string t336] 28 (0, 0)) bk hb); have n1_ := Aside0.mk (blk_below (g := gb345) (o := .cells #[.int .i64 t340, .bool t341, .string t342, .string t343] 28 (0, 0)) bk hb); have n2_ := Aside0.mk (below_step bl hb); clear BK338; clear BK345; clear HB; have BK338 := n0_; have BK345 := n1_; have HB := n2_; clear n0_ n1_ n2_; (try clear hb); (try clear hb2); (try clear hk); (try clear hi)) | ((with_reducible refine gate_callee (f := 11) rfl ?_); refine goesL_ (some 66) rfl rfl Tryd.func11 (by kernel_rfl) rfl #[.string t348] rfl (by (try simp only [List.map_toArray, List.map_cons, List.map_nil]); first | done | rfl | (simp only [List.length_drop, List.length_take]; rfl)) ?_; (with_reducible refine (num12_Float.calls kj6 t348 t349 t350 t351 t352 t353 _ ?side1 A20.out).mono ?_); (case side1 => exact Go.Proofs.YtbjlcipamdgnjaaDoor.Room.PowTab_below HG.out bl); rintro e w225 ⟨rfl, hb⟩; refine ⟨_, rfl, ?_⟩; have n0_ := Aside0.mk (blk_below (g := gb338) (o := .cells #[.int .i64 t333, .bool t334, .string t335, .string t336] 28 (0, 0)) bk hb); have n1_ := Aside0.mk (blk_below (g := gb345) (o := .cells #[.int .i64 t340, .bool t341, .string t342, .string t343] 28 (0, 0)) bk hb); have n2_ := Aside0.mk (below_step bl hb); clear BK338; clear BK345; clear HB; have BK338 := n0_; have BK345 := n1_; have HB := n2_; clear n0_ n1_ n2_; (try clear hb); (try clear hb2); (try clear hk); (try clear hi); clear A20) | ((with_reducible refine gate_dst (N := 16) rfl ?_); (try (refine gate_guard (by rfl) ?_; dsimp only)); refine box_event ?hg (N := 16) ?hd (cs := #[.int .i64 0, .bool false, .string (⟨#[]⟩ : ByteArray), .string (⟨#[]⟩ : ByteArray)]) (t := 28) ?hr ?_; (case hd => rfl); (case hg => rfl); (case hr => first | (go_simp; done) | (go_simp; rfl)); intro gb354 hg w226 hbox hb; have n0_ := Aside0.mk (blk_below (g := gb338) (o := .cells #[.int .i64 t333, .bool t334, .string t335, .string t336] 28 (0, 0)) bk hb); have n1_ := Aside0.mk (blk_below (g := gb345) (o := .cells #[.int .i64 t340, .bool t341, .string t342, .string t343] 28 (0, 0)) bk hb); have n2_ := Aside0.mk (below_step bl hb); have n3_ := Aside0.mk (hbox); have n4_ := Aside0.mk ((by rw [hg]; exact (below_size bl) : w.heap.size ≤ gb354)); have n5_ := Aside0.mk ((by rw [hg]; exact (below_size bl) : w.heap.size ≤ gb354)); have n6_ := Aside0.mk ((by rw [hg]; exact Nat.ne_of_lt (blk_lt (g := gb338) (o := .cells #[.int .i64 t333, .bool t334, .string t335, .string t336] 28 (0, 0)) bk) : gb338 ≠ gb354)); have n7_ := Aside0.mk ((by rw [hg]; exact Nat.ne_of_gt (blk_lt (g := gb338) (o := .cells #[.int .i64 t333, .bool t334, .string t335, .string t336] 28 (0, 0)) bk) : gb354 ≠ gb338)); have n8_ := Aside0.mk ((by rw [hg]; exact Nat.ne_of_lt (blk_lt (g := gb345) (o := .cells #[.int .i64 t340, .bool t341, .string t342, .string t343] 28 (0, 0)) bk) : gb345 ≠ gb354)); have n9_ := Aside0.mk ((by rw [hg]; exact Nat.ne_of_gt (blk_lt (g := gb345) (o := .cells #[.int .i64 t340, .bool t341, .string t342, .string t343] 28 (0, 0)) bk) : gb354 ≠ gb345)); clear BK338; clear BK345; clear HB; have BK338 := n0_; have BK345 := n1_; have HB := n2_; have BK354 := n3_; have GW354 := n4_; have GE354 := n5_; have NB338_354 := n6_; have NB354_338 := n7_; have NB345_354 := n8_; have NB354_345 := n9_; clear n0_ n1_ n2_ n3_ n4_ n5_ n6_ n7_ n8_ n9_; clear hb hbox hg; have hnb227 := NB354_338.out; have hnc227 := NB338_354.out; have hnb228 := NB354_345.out; have hnc228 := NB345_354.out; have hcz229_0 : w226.cell? ⟨gb354, 0, none⟩ = some (.int .i64 0) := (blk_cell BK354.out 0).trans rfl; have hcz229_1 : w226.cell? ⟨gb354, 1, none⟩ = some (.bool false) := (blk_cell BK354.out 1).trans rfl; have hcz229_2 : w226.cell? ⟨gb354, 2, none⟩ = some (.string (⟨#[]⟩ : ByteArray)) := (blk_cell BK354.out 2).trans rfl; have hcz229_3 : w226.cell? ⟨gb354, 3, none⟩ = some (.string (⟨#[]⟩ : ByteArray)) := (blk_cell BK354.out 3).trans rfl; have hfz229_0 := blk_frozen BK354.out 0; have hfz229_1 := blk_frozen BK354.out 1; have hfz229_2 := blk_frozen BK354.out 2; have hfz229_3 := blk_frozen BK354.out 3) | ((with_reducible refine gate_callee (f := 11) rfl ?_); refine goesL_ (some 70) rfl rfl Tryd.func11 (by kernel_rfl) rfl #[.string (⟨#[46, 110, 97, 110]⟩ : ByteArray)] rfl (by (try simp only [List.map_toArray, List.map_cons, List.map_nil]); first | done | rfl | (simp only [List.length_drop, List.length_take]; rfl)) ?_; (with_reducible refine (num12_Float.calls kj6 (⟨#[46, 110, 97, 110]⟩ : ByteArray) t355 t356 t357 t358 t359 _ ?side1 A21.out).mono ?_); (case side1 => exact Go.Proofs.YtbjlcipamdgnjaaDoor.Room.PowTab_below HG.out bl); rintro e w230 ⟨rfl, hb⟩; refine ⟨_, rfl, ?_⟩; have n0_ := Aside0.mk (blk_below (g := gb338) (o := .cells #[.int .i64 t333, .bool t334, .string t335, .string t336] 28 (0, 0)) bk hb); have n1_ := Aside0.mk (blk_below (g := gb345) (o := .cells #[.int .i64 t340, .bool t341, .string t342, .string t343] 28 (0, 0)) bk hb); have n2_ := Aside0.mk (blk_below (g := gb354) (o := .cells #[.int .i64 t349, .bool t350, .string t351, .string t352] 28 (0, 0)) bk hb); have n3_ := Aside0.mk (below_step bl hb); clear BK338; clear BK345; clear BK354; clear HB; have BK338 := n0_; have BK345 := n1_; have BK354 := n2_; have HB := n3_; clear n0_ n1_ n2_ n3_; (try clear hb); (try clear hb2); (try clear hk); (try clear hi)) | ((with_reducible refine gate_dst (N := 18) rfl ?_); (try (refine gate_guard (by rfl) ?_; dsimp only)); refine box_event ?hg (N := 18) ?hd (cs := #[.int .i64 0, .bool false, .string (⟨#[]⟩ : ByteArray), .string (⟨#[]⟩ : ByteArray)]) (t := 28) ?hr ?_; (case hd => rfl); (case hg => rfl); (case hr => first | (go_simp; done) | (go_simp; rfl)); intro gb360 hg w231 hbox hb; have n0_ := Aside0.mk (blk_below (g := gb338) (o := .cells #[.int .i64 t333, .bool t334, .string t335, .string t336] 28 (0, 0)) bk hb); have n1_ := Aside0.mk (blk_below (g := gb345) (o := .cells #[.int .i64 t340, .bool t341, .string t342, .string t343] 28 (0, 0)) bk hb); have n2_ := Aside0.mk (blk_below (g := gb354) (o := .cells #[.int .i64 t349, .bool t350, .string t351, .string t352] 28 (0, 0)) bk hb); have n3_ := Aside0.mk (below_step bl hb); have n4_ := Aside0.mk (hbox); have n5_ := Aside0.mk ((by rw [hg]; exact (below_size bl) : w.heap.size ≤ gb360)); have n6_ := Aside0.mk ((by rw [hg]; exact (below_size bl) : w.heap.size ≤ gb360)); have n7_ := Aside0.mk ((by rw [hg]; exact Nat.ne_of_lt (blk_lt (g := gb338) (o := .cells #[.int .i64 t333, .bool t334, .string t335, .string t336] 28 (0, 0)) bk) : gb338 ≠ gb360)); have n8_ := Aside0.mk ((by rw [hg]; exact Nat.ne_of_gt (blk_lt (g := gb338) (o := .cells #[.int .i64 t333, .bool t334, .string t335, .string t336] 28 (0, 0)) bk) : gb360 ≠ gb338)); have n9_ := Aside0.mk ((by rw [hg]; exact Nat.ne_of_lt (blk_lt (g := gb345) (o := .cells #[.int .i64 t340, .bool t341, .string t342, .string t343] 28 (0, 0)) bk) : gb345 ≠ gb360)); have n10_ := Aside0.mk ((by rw [hg]; exact Nat.ne_of_gt (blk_lt (g := gb345) (o := .cells #[.int .i64 t340, .bool t341, .string t342, .string t343] 28 (0, 0)) bk) : gb360 ≠ gb345)); have n11_ := Aside0.mk ((by rw [hg]; exact Nat.ne_of_lt (blk_lt (g := gb354) (o := .cells #[.int .i64 t349, .bool t350, .string t351, .string t352] 28 (0, 0)) bk) : gb354 ≠ gb360)); have n12_ := Aside0.mk ((by rw [hg]; exact Nat.ne_of_gt (blk_lt (g := gb354) (o := .cells #[.int .i64 t349, .bool t350, .string t351, .string t352] 28 (0, 0)) bk) : gb360 ≠ gb354)); clear BK338; clear BK345; clear BK354; clear HB; have BK338 := n0_; have BK345 := n1_; have BK354 := n2_; have HB := n3_; have BK360 := n4_; have GW360 := n5_; have GE360 := n6_; have NB338_360 := n7_; have NB360_338 := n8_; have NB345_360 := n9_; have NB360_345 := n10_; have NB354_360 := n11_; have NB360_354 := n12_; clear n0_ n1_ n2_ n3_ n4_ n5_ n6_ n7_ n8_ n9_ n10_ n11_ n12_; clear hb hbox hg; have hnb232 := NB360_338.out; have hnc232 := NB338_360.out; have hnb233 := NB360_345.out; have hnc233 := NB345_360.out; have hnb234 := NB360_354.out; have hnc234 := NB354_360.out; have hcz235_0 : w231.cell? ⟨gb360, 0, none⟩ = some (.int .i64 0) := (blk_cell BK360.out 0).trans rfl; have hcz235_1 : w231.cell? ⟨gb360, 1, none⟩ = some (.bool false) := (blk_cell BK360.out 1).trans rfl; have hcz235_2 : w231.cell? ⟨gb360, 2, none⟩ = some (.string (⟨#[]⟩ : ByteArray)) := (blk_cell BK360.out 2).trans rfl; have hcz235_3 : w231.cell? ⟨gb360, 3, none⟩ = some (.string (⟨#[]⟩ : ByteArray)) := (blk_cell BK360.out 3).trans rfl; have hfz235_0 := blk_frozen BK360.out 0; have hfz235_1 := blk_frozen BK360.out 1; have hfz235_2 := blk_frozen BK360.out 2; have hfz235_3 := blk_frozen BK360.out 3))
      go_ret
      exact ⟨by first | rfl | (simp [errW_none, errW_some] <;> rfl) | (simp [*, errW_none, errW_some] <;> rfl), bl⟩
 ·replace c6 := Bool.eq_false_iff.mpr c6
  subst c6
  have H1 : (some false) = some r := by rw [if_neg (show ¬ (false = true) by decide)] at H; exact H
  clear H
  have H := H1
  clear H1
  obtain rfl := Option.some.inj H
  go_enter Tryd.func4, Tryd.ntmps4
  go_wp2_with (first | ((with_reducible refine gate_callee (f := 8) rfl ?_); refine goesL_ (some 20) rfl rfl Tryd.func8 (by kernel_rfl) rfl #[] rfl (by (try simp only [List.map_toArray, List.map_cons, List.map_nil]); first | done | rfl | (simp only [List.length_drop, List.length_take]; rfl)) ?_; (with_reducible refine (targumlaw8_known.calls k  false _ ?side1 A5.out).mono ?_); (case side1 => exact Go.Proofs.YtbjlcipamdgnjaaDoor.Room.PowTab_below HG.out bl); rintro e w236 ⟨rfl, hb⟩; refine ⟨_, rfl, ?_⟩; have n0_ := Aside0.mk (below_step bl hb); clear HB; have HB := n0_; clear n0_; (try clear hb); (try clear hb2); (try clear hk); (try clear hi)))
  go_ret
  exact ⟨by first | rfl | (simp [errW_none, errW_some] <;> rfl) | (simp [*, errW_none, errW_some] <;> rfl), bl⟩

/-- THE ONE PURE STATEMENT of targumlaw8_Num12Prints: yours. -/
def targumlaw8_Num12Prints.Pure : Prop := ∀ (a0 : ByteArray) (a1 : ByteArray) (a2 : Bool) (a3 : Int), a0.size ≤ 140737488351232 → a1.size ≤ 140737488351232 → (Lit.int .i32 a3).wf = true → ∃ k, targumlaw8_Num12Prints.f k a0 a1 a2 a3 = some true
theorem targumlaw8_Num12Prints.walk (P : targumlaw8_Num12Prints.Pure) (a0 : ByteArray) (a1 : ByteArray) (a2 : Bool) (a3 : Int) (w : World) (w0 : a0.size ≤ 140737488351232) (w1 : a1.size ≤ 140737488351232) (w3 : (Lit.int .i32 a3).wf = true) (hG : Go.Proofs.YtbjlcipamdgnjaaDoor.Room.PowTab w) :
  Calls Tryd.prog 4 #[.string a0, .string a1, .bool a2, .int .i32 a3] w fun e w' => e = .returned (.bool true) ∧ Below w.heap.size w w' := by
 obtain ⟨k, h⟩ := P a0 a1 a2 a3 w0 w1 w3
 refine (targumlaw8_Num12Prints.calls k a0 a1 a2 a3 true w hG h).mono ?_
 rintro e w' ⟨rfl, hd⟩
 exact ⟨rfl, hd⟩

end Go.Proofs.YtbjlcipamdgnjaaDoor.PN
