/- Written by this session's own program (xprint, made over the kit's print): Lean functions with the same answers as the Go functions, and the proofs of that. Not trusted: Lean checks it. -/
import Derived.Test.YtkijneohhilboaaGreatDoorPKx0
import Derived.Test.YtkijneohhilboaaGreatDoorPKx1
import Derived.Test.YtkijneohhilboaaGreatDoorPKx6
import Derived.Test.YtkijneohhilboaaGreatDoorPKx7
import Derived.Test.YtkijneohhilboaaGreatDoorPKx8
import Derived.Test.YtkijneohhilboaaGreatDoorPKx9
import Derived.Test.YtkijneohhilboaaGreatDoorPKx12
import Derived.Test.YtkijneohhilboaaGreatDoorXW
namespace Go.Proofs.YtkijneohhilboaaGreatDoor.PK
open Go.Proofs.YtkijneohhilboaaGreatDoor.XW Go.RowKit Go.Proofs.YtkijneohhilboaaGreatDoorW.PrintWords Go.Proofs.YtkijneohhilboaaGreatDoorW.PrintLast Go.Proofs.YtkijneohhilboaaGreatDoorW.PrintMore
attribute [local go_sem] max2_int min2_int max_two min_two max_three min_three max_four min_four   -- for this text's walks alone
set_option linter.unusedVariables false
set_option linter.unusedSimpArgs false

attribute [local go_sem high] eqA26
/-! ### targumlaw7_Float11Sixty: function 5 -/
mutual
def targumlaw7_Float11Sixty.j0 : Nat → Int → List Int → ByteArray → Bool → Bool → Option (Bool)
 | 0, _, _, _, _, _ => none
 | k + 1, x0, x1, x2, x3, x31 => if x31 = true then (some true) else ((targumref4_Text.f k (wrap64 (x0))).bind fun t298 => (targumlaw7_Float11Sixty.l0 k x1 x2 x3 t298 (wrap64 (x0)) 0))
def targumlaw7_Float11Sixty.l0 : Nat → List Int → ByteArray → Bool → ByteArray → Int → Int → Option (Bool)
 | 0, _, _, _, _, _, _ => none
 | k + 1, x1, x2, x3, x9, x10, x11 => if x11 < (x1.length : Int) then (if x9.size + 1 ≤ 9223372036854775807 then (if 0 ≤ x11 then ((targumref4_Text.f k (wrap64 (Int.tmod (rd x1 x11) 60))).bind fun t300 => (if (x9 ++ (⟨#[58]⟩ : ByteArray)).size + t300.size ≤ 9223372036854775807 then (targumlaw7_Float11Sixty.l0 k x1 x2 x3 ((x9 ++ (⟨#[58]⟩ : ByteArray)) ++ t300) (wrap64 ((wrap64 (60 * x10)) + (wrap64 (Int.tmod (rd x1 x11) 60)))) (wrap64 (x11 + 1))) else (none))) else (none)) else (none)) else ((targumref4_Text.f k x10).bind fun t302 => ((targumlaw7_digits.f k x2).bind fun t303 => ((targumref4_Make.f k x3 t302 t303 (⟨#[48]⟩ : ByteArray)).bind fun bt304 => (if x3 = true then (targumlaw7_Float11Sixty.j2 k x2 x9 (⟨#[45]⟩ : ByteArray) bt304.1 bt304.2.1 bt304.2.2.1 bt304.2.2.2.1) else (targumlaw7_Float11Sixty.j2 k x2 x9 (⟨#[]⟩ : ByteArray) bt304.1 bt304.2.1 bt304.2.2.1 bt304.2.2.2.1)))))
def targumlaw7_Float11Sixty.j2 : Nat → ByteArray → ByteArray → ByteArray → Int → Bool → ByteArray → ByteArray → Option (Bool)
 | 0, _, _, _, _, _, _, _ => none
 | k + 1, x2, x9, x14, x310000, x310001, x310002, x310003 => if x14.size + x9.size ≤ 9223372036854775807 then (if (x14 ++ x9).size + 1 ≤ 9223372036854775807 then ((targumlaw7_digits.f k x2).bind fun t310 => (if ((x14 ++ x9) ++ (⟨#[46]⟩ : ByteArray)).size + t310.size ≤ 9223372036854775807 then ((float11_Of.f k (((x14 ++ x9) ++ (⟨#[46]⟩ : ByteArray)) ++ t310)).bind fun bt311 => (if bt311.2.2.2.2 = true then (if (bt311.1 == x310000 && (bt311.2.1 == x310001 && (bt311.2.2.1.toList == x310002.toList && (bt311.2.2.2.1.toList == x310003.toList)))) = true then (if x9.size + 1 ≤ 9223372036854775807 then ((targumlaw7_digits.f k x2).bind fun t317 => (if (x9 ++ (⟨#[46]⟩ : ByteArray)).size + t317.size ≤ 9223372036854775807 then ((float11_Form.f k ((x9 ++ (⟨#[46]⟩ : ByteArray)) ++ t317)).bind fun t318 => (if t318 = 3 then ((float11_Is.f k x9).bind fun t319 => (if t319 = true then (some false) else ((targumlaw7_digits.f k x2).bind fun t320 => (if (x9 ++ (⟨#[46]⟩ : ByteArray)).size + t320.size ≤ 9223372036854775807 then (if ((x9 ++ (⟨#[46]⟩ : ByteArray)) ++ t320).size + 3 ≤ 9223372036854775807 then ((float11_Is.f k (((x9 ++ (⟨#[46]⟩ : ByteArray)) ++ t320) ++ (⟨#[101, 43, 49]⟩ : ByteArray))).bind fun t321 => (if t321 = true then (some false) else (if x9.size + 2 ≤ 9223372036854775807 then ((targumlaw7_digits.f k x2).bind fun t322 => (if (x9 ++ (⟨#[58, 46]⟩ : ByteArray)).size + t322.size ≤ 9223372036854775807 then ((float11_Is.f k ((x9 ++ (⟨#[58, 46]⟩ : ByteArray)) ++ t322)).bind fun t323 => (some (!t323))) else (none))) else (none)))) else (none)) else (none))))) else (some false))) else (none))) else (none)) else (some false)) else (some false))) else (none))) else (none)) else (none)
end
def targumlaw7_Float11Sixty.f (k : Nat) (a0 : Int) (l1 : List Int) (a2 : ByteArray) (a3 : Bool) : Option (Bool) := (targumlaw7_known.f k).bind fun t297 => (if t297 = true then (if (l1.length : Int) < 1 then (targumlaw7_Float11Sixty.j0 k a0 l1 a2 a3 true) else (if (l1.length : Int) > 6 then (targumlaw7_Float11Sixty.j0 k a0 l1 a2 a3 true) else (targumlaw7_Float11Sixty.j0 k a0 l1 a2 a3 (decide ((a2.size : Int) > 30))))) else (some false))
theorem targumlaw7_Float11Sixty.mono_l : ∀ k, (∀ y0 y1 y2 y3 y4, LeO (targumlaw7_Float11Sixty.j0 k y0 y1 y2 y3 y4) (targumlaw7_Float11Sixty.j0 (k + 1) y0 y1 y2 y3 y4)) ∧ (∀ y0 y1 y2 y3 y4 y5, LeO (targumlaw7_Float11Sixty.l0 k y0 y1 y2 y3 y4 y5) (targumlaw7_Float11Sixty.l0 (k + 1) y0 y1 y2 y3 y4 y5)) ∧ (∀ y0 y1 y2 y3 y4 y5 y6, LeO (targumlaw7_Float11Sixty.j2 k y0 y1 y2 y3 y4 y5 y6) (targumlaw7_Float11Sixty.j2 (k + 1) y0 y1 y2 y3 y4 y5 y6))
 | 0 => ⟨fun _ _ _ _ _ r h => by simp [targumlaw7_Float11Sixty.j0] at h, fun _ _ _ _ _ _ r h => by simp [targumlaw7_Float11Sixty.l0] at h, fun _ _ _ _ _ _ _ r h => by simp [targumlaw7_Float11Sixty.j2] at h⟩
 | k + 1 => by
  obtain ⟨ih0, ih1, ih2⟩ := targumlaw7_Float11Sixty.mono_l k
  refine ⟨?_, ?_, ?_⟩
  ·intro y0 y1 y2 y3 y4
   unfold targumlaw7_Float11Sixty.j0
   repeat' first
   | (with_reducible exact ih0 _ _ _ _ _)
   | (with_reducible exact ih1 _ _ _ _ _ _)
   | (with_reducible exact ih2 _ _ _ _ _ _ _)
   | (with_reducible exact float11_Form.mono _ _)
   | (with_reducible exact float11_Is.mono _ _)
   | (with_reducible exact float11_Of.mono _ _)
   | (with_reducible exact targumlaw7_digits.mono _ _)
   | (with_reducible exact targumlaw7_known.mono _)
   | (with_reducible exact targumref4_Make.mono _ _ _ _ _)
   | (with_reducible exact targumref4_Text.mono _ _)
   | (with_reducible exact LeO.refl _)
   | (with_reducible exact LeO.none _)
   | (with_reducible refine LeO.ite ?_ ?_)
   | (with_reducible refine LeO.bind ?_ (fun _ => ?_))
   | exact ih0 _ _ _ _ _
   | exact ih1 _ _ _ _ _ _
   | exact ih2 _ _ _ _ _ _ _
   | exact float11_Form.mono _ _
   | exact float11_Is.mono _ _
   | exact float11_Of.mono _ _
   | exact targumlaw7_digits.mono _ _
   | exact targumlaw7_known.mono _
   | exact targumref4_Make.mono _ _ _ _ _
   | exact targumref4_Text.mono _ _
   | exact LeO.none _
   | refine LeO.ite ?_ ?_
   | refine LeO.bind ?_ (fun _ => ?_)
  ·intro y0 y1 y2 y3 y4 y5
   unfold targumlaw7_Float11Sixty.l0
   repeat' first
   | (with_reducible exact ih0 _ _ _ _ _)
   | (with_reducible exact ih1 _ _ _ _ _ _)
   | (with_reducible exact ih2 _ _ _ _ _ _ _)
   | (with_reducible exact float11_Form.mono _ _)
   | (with_reducible exact float11_Is.mono _ _)
   | (with_reducible exact float11_Of.mono _ _)
   | (with_reducible exact targumlaw7_digits.mono _ _)
   | (with_reducible exact targumlaw7_known.mono _)
   | (with_reducible exact targumref4_Make.mono _ _ _ _ _)
   | (with_reducible exact targumref4_Text.mono _ _)
   | (with_reducible exact LeO.refl _)
   | (with_reducible exact LeO.none _)
   | (with_reducible refine LeO.ite ?_ ?_)
   | (with_reducible refine LeO.bind ?_ (fun _ => ?_))
   | exact ih0 _ _ _ _ _
   | exact ih1 _ _ _ _ _ _
   | exact ih2 _ _ _ _ _ _ _
   | exact float11_Form.mono _ _
   | exact float11_Is.mono _ _
   | exact float11_Of.mono _ _
   | exact targumlaw7_digits.mono _ _
   | exact targumlaw7_known.mono _
   | exact targumref4_Make.mono _ _ _ _ _
   | exact targumref4_Text.mono _ _
   | exact LeO.none _
   | refine LeO.ite ?_ ?_
   | refine LeO.bind ?_ (fun _ => ?_)
  ·intro y0 y1 y2 y3 y4 y5 y6
   unfold targumlaw7_Float11Sixty.j2
   repeat' first
   | (with_reducible exact ih0 _ _ _ _ _)
   | (with_reducible exact ih1 _ _ _ _ _ _)
   | (with_reducible exact ih2 _ _ _ _ _ _ _)
   | (with_reducible exact float11_Form.mono _ _)
   | (with_reducible exact float11_Is.mono _ _)
   | (with_reducible exact float11_Of.mono _ _)
   | (with_reducible exact targumlaw7_digits.mono _ _)
   | (with_reducible exact targumlaw7_known.mono _)
   | (with_reducible exact targumref4_Make.mono _ _ _ _ _)
   | (with_reducible exact targumref4_Text.mono _ _)
   | (with_reducible exact LeO.refl _)
   | (with_reducible exact LeO.none _)
   | (with_reducible refine LeO.ite ?_ ?_)
   | (with_reducible refine LeO.bind ?_ (fun _ => ?_))
   | exact ih0 _ _ _ _ _
   | exact ih1 _ _ _ _ _ _
   | exact ih2 _ _ _ _ _ _ _
   | exact float11_Form.mono _ _
   | exact float11_Is.mono _ _
   | exact float11_Of.mono _ _
   | exact targumlaw7_digits.mono _ _
   | exact targumlaw7_known.mono _
   | exact targumref4_Make.mono _ _ _ _ _
   | exact targumref4_Text.mono _ _
   | exact LeO.none _
   | refine LeO.ite ?_ ?_
   | refine LeO.bind ?_ (fun _ => ?_)
theorem targumlaw7_Float11Sixty.mono : ∀ a0 a1 a2 a3 k, LeO (targumlaw7_Float11Sixty.f k a0 a1 a2 a3) (targumlaw7_Float11Sixty.f (k + 1) a0 a1 a2 a3) := by
 intro a0 a1 a2 a3 k
 obtain ⟨ih0, ih1, ih2⟩ := targumlaw7_Float11Sixty.mono_l k
 unfold targumlaw7_Float11Sixty.f
 repeat' first
   | (with_reducible exact ih0 _ _ _ _ _)
   | (with_reducible exact ih1 _ _ _ _ _ _)
   | (with_reducible exact ih2 _ _ _ _ _ _ _)
   | (with_reducible exact float11_Form.mono _ _)
   | (with_reducible exact float11_Is.mono _ _)
   | (with_reducible exact float11_Of.mono _ _)
   | (with_reducible exact targumlaw7_digits.mono _ _)
   | (with_reducible exact targumlaw7_known.mono _)
   | (with_reducible exact targumref4_Make.mono _ _ _ _ _)
   | (with_reducible exact targumref4_Text.mono _ _)
   | (with_reducible exact LeO.refl _)
   | (with_reducible exact LeO.none _)
   | (with_reducible refine LeO.ite ?_ ?_)
   | (with_reducible refine LeO.bind ?_ (fun _ => ?_))
   | exact ih0 _ _ _ _ _
   | exact ih1 _ _ _ _ _ _
   | exact ih2 _ _ _ _ _ _ _
   | exact float11_Form.mono _ _
   | exact float11_Is.mono _ _
   | exact float11_Of.mono _ _
   | exact targumlaw7_digits.mono _ _
   | exact targumlaw7_known.mono _
   | exact targumref4_Make.mono _ _ _ _ _
   | exact targumref4_Text.mono _ _
   | exact LeO.none _
   | refine LeO.ite ?_ ?_
   | refine LeO.bind ?_ (fun _ => ?_)
set_option maxHeartbeats 40000000 in
set_option maxRecDepth 100000 in
theorem targumlaw7_Float11Sixty.calls (k : Nat) (a0 : Int) (A1 : Option Addr) (c1 : Nat) (l1 : List Int) (a2 : ByteArray) (a3 : Bool) (r : Bool) (w : World) (hr1 : Kd.C (Kd.int .u8) w A1 l1.length l1) (hc1 : l1.length ≤ c1) (hG : Go.Proofs.YtkijneohhilboaaGreatDoor.PKT.Tabs w) (h : targumlaw7_Float11Sixty.f k a0 l1 a2 a3 = some r) :
  Calls Tryz.prog 5 #[.int .u16 a0, .slice A1 l1.length c1, .string a2, .bool a3] w fun e w' => e = .returned (.bool r) ∧ Below w.heap.size w w' := by
 have hu26 := Tryz.underlying26
 have HG := Aside0.mk hG
 clear hG
 have HR1 := Aside0.mk hr1
 have HC1 := Aside0.mk hc1
 clear hr1 hc1
 have HB := Aside0.mk (Below.refl w.heap.size w)
 have H : ((targumlaw7_known.f k).bind fun t297 => (if t297 = true then (if (l1.length : Int) < 1 then (targumlaw7_Float11Sixty.j0 k a0 l1 a2 a3 true) else (if (l1.length : Int) > 6 then (targumlaw7_Float11Sixty.j0 k a0 l1 a2 a3 true) else (targumlaw7_Float11Sixty.j0 k a0 l1 a2 a3 (decide ((a2.size : Int) > 30))))) else (some false))) = some r := h
 clear h
 replace H := Option.bind_eq_some_iff.mp H
 obtain ⟨t297, A50, H⟩ := H
 replace H : (if t297 = true then (if (l1.length : Int) < 1 then (targumlaw7_Float11Sixty.j0 k a0 l1 a2 a3 true) else (if (l1.length : Int) > 6 then (targumlaw7_Float11Sixty.j0 k a0 l1 a2 a3 true) else (targumlaw7_Float11Sixty.j0 k a0 l1 a2 a3 (decide ((a2.size : Int) > 30))))) else (some false)) = some r := H
 have A5 := Aside0.mk A50
 clear A50
 by_cases c6 : t297 = true
 ·subst c6
  have H1 : (if (l1.length : Int) < 1 then (targumlaw7_Float11Sixty.j0 k a0 l1 a2 a3 true) else (if (l1.length : Int) > 6 then (targumlaw7_Float11Sixty.j0 k a0 l1 a2 a3 true) else (targumlaw7_Float11Sixty.j0 k a0 l1 a2 a3 (decide ((a2.size : Int) > 30))))) = some r := by rw [if_pos rfl] at H; exact H
  clear H
  have H := H1
  clear H1
  have HC7 := Aside0.mk H
  clear H
  go_enter Tryz.func5, Tryz.ntmps5
  go_upto_region 3 with (first | ((with_reducible refine gate_callee (f := 7) rfl ?_); refine goesL_ (some 17) rfl rfl Tryz.func7 (by kernel_rfl) rfl #[] rfl (by (try simp only [List.map_toArray, List.map_cons, List.map_nil]); first | done | rfl | (simp only [List.length_drop, List.length_take]; rfl)) ?_; (with_reducible refine (targumlaw7_known.calls k  true _ ?side1 A5.out).mono ?_); (case side1 => exact Go.Proofs.YtkijneohhilboaaGreatDoor.PKT.Tabs_below HG.out bl); rintro e w8 ⟨rfl, hb⟩; refine ⟨_, rfl, ?_⟩; have n0_ := Aside0.mk (below_step bl hb); clear HB; have HB := n0_; clear n0_; (try clear hb); (try clear hb2); (try clear hk); (try clear hi)))
  (try simp only [Act.put, List.setIfInBounds_toArray, List.set_cons_zero, List.set_cons_succ])
  go_cut [31] (fun v31 wc => ∃ (kq : Nat) (x31_6 : Bool), v31 = .bool x31_6 ∧ Aside0 (targumlaw7_Float11Sixty.j0 kq a0 l1 a2 a3 x31_6 = some r) ∧ Aside0 (kq ≤ k) ∧ Aside0 (Below w.heap.size w wc))
  case first =>
   have H := HC7.out
   clear HC7
   by_cases c9 : (l1.length : Int) < 1
   ·rw [if_pos c9] at H
    have c9b0 : decide ((l1.length : Int) < 1) = true := decide_eq_true c9; have c9b1 : decide (l1.length < 1) = true := decide_eq_true (by omega); clear c9; (first | rw [c9b0] | (simp only [i64_w, i32_w]; rw [c9b0]) | skip); have H' := Aside0.mk H; clear H; go_wp2; go_meet
    case rel => exact ⟨_, (true), (by first | rfl | (simp; done) | (simp [*]; done) | (simp [wrap64]; done)), H', ⟨by first | omega | exact Nat.le_refl _⟩, ⟨bl⟩⟩
   ·rw [if_neg c9] at H
    have c9b0 : decide ((l1.length : Int) < 1) = false := decide_eq_false c9; have c9b1 : decide (l1.length < 1) = false := decide_eq_false (by omega); clear c9; (first | rw [c9b0] | (simp only [i64_w, i32_w]; rw [c9b0]) | skip); by_cases c10 : (l1.length : Int) > 6
    ·rw [if_pos c10] at H
     have c10b0 : decide (6 < (l1.length : Int)) = true := decide_eq_true c10; have c10b1 : decide (6 < l1.length) = true := decide_eq_true (by omega); clear c10; have H' := Aside0.mk H; clear H; go_wp2; go_meet
     case rel => exact ⟨_, (true), (by first | rfl | (simp; done) | (simp [*]; done) | (simp [wrap64]; done)), H', ⟨by first | omega | exact Nat.le_refl _⟩, ⟨bl⟩⟩
    ·rw [if_neg c10] at H
     have c10b0 : decide (6 < (l1.length : Int)) = false := decide_eq_false c10; have c10b1 : decide (6 < l1.length) = false := decide_eq_false (by omega); clear c10; have H' := Aside0.mk H; clear H; go_wp2; go_meet
     case rel => exact ⟨_, (decide ((a2.size : Int) > 30)), (by first | rfl | (simp; done) | (simp [*]; done) | (simp [wrap64]; done)), H', ⟨by first | omega | exact Nat.le_refl _⟩, ⟨bl⟩⟩
  case rest =>
   clear HC7
   try clear c1; try clear c6
   obtain ⟨kq, x31_6, rfl, HA, HJ6, HB⟩ := hcut
   cases kq with
   | zero => exact absurd HA.out (by simp [targumlaw7_Float11Sixty.j0])
   | succ kj6 =>
    have H := HA.out; clear HA; simp only [targumlaw7_Float11Sixty.j0] at H; by_cases c11 : x31_6 = true
    ·subst c11
     have H1 : (some true) = some r := by rw [if_pos rfl] at H; exact H
     clear H; have H := H1; clear H1; obtain rfl := Option.some.inj H; go_wp2; go_ret
     exact ⟨by first | rfl | (simp [errW_none, errW_some] <;> rfl) | (simp [*, errW_none, errW_some] <;> rfl), bl⟩
    ·replace c11 := Bool.eq_false_iff.mpr c11
     subst c11; have H1 : ((targumref4_Text.f kj6 (wrap64 (a0))).bind fun t298 => (targumlaw7_Float11Sixty.l0 kj6 l1 a2 a3 t298 (wrap64 (a0)) 0)) = some r := by rw [if_neg (show ¬ (false = true) by decide)] at H; exact H
     clear H; have H := H1; clear H1; replace H := Option.bind_eq_some_iff.mp H; obtain ⟨t298, A120, H⟩ := H; replace H : (targumlaw7_Float11Sixty.l0 kj6 l1 a2 a3 t298 (wrap64 (a0)) 0) = some r := H; have A12 := Aside0.mk A120; clear A120; have H' := Aside0.mk H; clear H; go_wp2_with (first | ((with_reducible refine gate_callee (f := 15) rfl ?_); refine goesL_ (some 34) rfl rfl Tryz.func15 (by kernel_rfl) rfl #[.int .i64 (wrap64 (a0))] rfl (by (try simp only [List.map_toArray, List.map_cons, List.map_nil]); first | done | rfl | (simp only [List.length_drop, List.length_take]; rfl)) ?_; (with_reducible refine (targumref4_Text.calls kj6 (wrap64 (a0)) t298 _ A12.out).mono ?_); rintro e w13 ⟨rfl, hb⟩; refine ⟨_, rfl, ?_⟩; have n0_ := Aside0.mk (below_step bl hb); clear HB; have HB := n0_; clear n0_; (try clear hb); (try clear hb2); (try clear hk); (try clear hi))); go_loopg [9, 10, 11] kj6 (fun kq v9 v10 v11 w' => ∃ (x9_2 : ByteArray) (x10_2 : Int) (x11_2 : Int), v9 = .string x9_2 ∧ v10 = .int .i64 x10_2 ∧ v11 = .int .i64 x11_2 ∧ Aside0 (targumlaw7_Float11Sixty.l0 kq l1 a2 a3 x9_2 x10_2 x11_2 = some r) ∧ Aside0 (kq ≤ kj6) ∧ Aside0 (Below w.heap.size w w'))
     case atStart => exact ⟨(t298), (wrap64 (a0)), (0), (by first | rfl | (simp; done) | (simp [*]; done) | (simp [wrap64]; done)), (by first | rfl | (simp; done) | (simp [*]; done) | (simp [wrap64]; done)), (by first | rfl | (simp; done) | (simp [*]; done) | (simp [wrap64]; done)), H', ⟨Nat.le_refl _⟩, ⟨bl⟩⟩
     case round =>
      clear H'; try clear c1; try clear c6; try clear c11
      obtain ⟨x9_2, x10_2, x11_2, rfl, rfl, rfl, HA, HK2, HB⟩ := hrel; cases gk with
      | zero => exact absurd HA.out (by simp [targumlaw7_Float11Sixty.l0])
      | succ k2 =>
       have H := HA.out; clear HA; simp only [targumlaw7_Float11Sixty.l0] at H; by_cases c14 : x11_2 < (l1.length : Int)
       ·rw [if_pos c14] at H
        have c14b0 : decide (x11_2 < (l1.length : Int)) = true := decide_eq_true c14; clear c14; by_cases c15 : x9_2.size + 1 ≤ 9223372036854775807
        ·rw [if_pos c15] at H
         have c15b0 := eq_true c15; have c15b1 : decide (x9_2.size + 1 ≤ 9223372036854775807) = true := decide_eq_true c15; try have c15b2 : (9223372036854775807 < x9_2.size + 1) = False := eq_false (Nat.not_lt.2 c15)
         by_cases c16 : 0 ≤ x11_2
         ·rw [if_pos c16] at H
          have c16b0 : decide (0 ≤ x11_2) = true := decide_eq_true c16; clear c16; replace H := Option.bind_eq_some_iff.mp H; obtain ⟨t300, A170, H⟩ := H; replace H : (if (x9_2 ++ (⟨#[58]⟩ : ByteArray)).size + t300.size ≤ 9223372036854775807 then (targumlaw7_Float11Sixty.l0 k2 l1 a2 a3 ((x9_2 ++ (⟨#[58]⟩ : ByteArray)) ++ t300) (wrap64 ((wrap64 (60 * x10_2)) + (wrap64 (Int.tmod (rd l1 x11_2) 60)))) (wrap64 (x11_2 + 1))) else (none)) = some r := H; have A17 := Aside0.mk A170; clear A170; by_cases c18 : (x9_2 ++ (⟨#[58]⟩ : ByteArray)).size + t300.size ≤ 9223372036854775807
          ·rw [if_pos c18] at H
           have c18b0 := eq_true c18; have c18b1 : decide ((x9_2 ++ (⟨#[58]⟩ : ByteArray)).size + t300.size ≤ 9223372036854775807) = true := decide_eq_true c18; try have c18b2 : (9223372036854775807 < (x9_2 ++ (⟨#[58]⟩ : ByteArray)).size + t300.size) = False := eq_false (Nat.not_lt.2 c18)
           try have c18b3 : (9223372036854775807 < x9_2.size + 1 + t300.size) = False := eq_false (Nat.not_lt.2 (by have z_ := c18; simp only [ByteArray.size_append, ByteArray.size_extract, Nat.min_self] at z_; exact z_))
           have H' := Aside0.mk H; clear H; have p299 : 0 ≤ (x11_2 : Int) := of_decide_eq_true (by first | (with_reducible assumption) | assumption); have q299 : x11_2 < (l1.length : Int) := of_decide_eq_true (by first | (with_reducible assumption) | assumption); obtain ⟨ad299, e299, hx299_0⟩ := Kd.at_int HR1.out x11_2 p299 q299; cases e299; replace hx299_0 := (HB.out.cell (World.block_lt_of_cell? w _ hx299_0)).trans hx299_0; replace p299 := eq_true p299; replace q299 := eq_true q299; go_wp2_with (first | ((with_reducible refine gate_callee (f := 15) rfl ?_); refine goesL_ (some 51) rfl rfl Tryz.func15 (by kernel_rfl) rfl #[.int .i64 (wrap64 (Int.tmod (rd l1 x11_2) 60))] rfl (by (try simp only [List.map_toArray, List.map_cons, List.map_nil]); first | done | rfl | (simp only [List.length_drop, List.length_take]; rfl)) ?_; (with_reducible refine (targumref4_Text.calls k2 (wrap64 (Int.tmod (rd l1 x11_2) 60)) t300 _ A17.out).mono ?_); rintro e w19 ⟨rfl, hb⟩; refine ⟨_, rfl, ?_⟩; have n0_ := Aside0.mk (below_step bl hb); clear HB; have HB := n0_; clear n0_; (try clear hb); (try clear hb2); (try clear hk); (try clear hi); have p301 : 0 ≤ (x11_2 : Int) := of_decide_eq_true (by first | (with_reducible assumption) | assumption); have q301 : x11_2 < (l1.length : Int) := of_decide_eq_true (by first | (with_reducible assumption) | assumption); obtain ⟨ad301, e301, hx301_0⟩ := Kd.at_int HR1.out x11_2 p301 q301; obtain rfl : ad299 = ad301 := (by injection e301); replace hx301_0 := (HB.out.cell (World.block_lt_of_cell? w _ hx301_0)).trans hx301_0; replace p301 := eq_true p301; replace q301 := eq_true q301)); go_roundg k2
           case measure => have := HJ6.out; have := HK2.out; omega
           case rel => exact ⟨((x9_2 ++ (⟨#[58]⟩ : ByteArray)) ++ t300), (wrap64 ((wrap64 (60 * x10_2)) + (wrap64 (Int.tmod (rd l1 x11_2) 60)))), (wrap64 (x11_2 + 1)), (by first | rfl | (simp; done) | (simp [*]; done) | (simp [wrap64]; done)), (by first | rfl | (simp; done) | (simp [*]; done) | (simp [wrap64]; done)), (by first | rfl | (simp; done) | (simp [*]; done) | (simp [wrap64]; done)), H', ⟨by have := HJ6.out; have := HK2.out; omega⟩, ⟨bl⟩⟩
          ·rw [if_neg c18] at H
           exact absurd H (by simp)
         ·rw [if_neg c16] at H
          exact absurd H (by simp)
        ·rw [if_neg c15] at H
         exact absurd H (by simp)
       ·rw [if_neg c14] at H
        have c14b0 : decide (x11_2 < (l1.length : Int)) = false := decide_eq_false c14; clear c14; replace H := Option.bind_eq_some_iff.mp H; obtain ⟨t302, A200, H⟩ := H; replace H : ((targumlaw7_digits.f k2 a2).bind fun t303 => ((targumref4_Make.f k2 a3 t302 t303 (⟨#[48]⟩ : ByteArray)).bind fun bt304 => (if a3 = true then (targumlaw7_Float11Sixty.j2 k2 a2 x9_2 (⟨#[45]⟩ : ByteArray) bt304.1 bt304.2.1 bt304.2.2.1 bt304.2.2.2.1) else (targumlaw7_Float11Sixty.j2 k2 a2 x9_2 (⟨#[]⟩ : ByteArray) bt304.1 bt304.2.1 bt304.2.2.1 bt304.2.2.2.1)))) = some r := H; have A20 := Aside0.mk A200; clear A200; replace H := Option.bind_eq_some_iff.mp H; obtain ⟨t303, A210, H⟩ := H; replace H : ((targumref4_Make.f k2 a3 t302 t303 (⟨#[48]⟩ : ByteArray)).bind fun bt304 => (if a3 = true then (targumlaw7_Float11Sixty.j2 k2 a2 x9_2 (⟨#[45]⟩ : ByteArray) bt304.1 bt304.2.1 bt304.2.2.1 bt304.2.2.2.1) else (targumlaw7_Float11Sixty.j2 k2 a2 x9_2 (⟨#[]⟩ : ByteArray) bt304.1 bt304.2.1 bt304.2.2.1 bt304.2.2.2.1))) = some r := H; have A21 := Aside0.mk A210; clear A210; replace H := Option.bind_eq_some_iff.mp H; obtain ⟨⟨t304, t305, t306, t307, t308⟩, A220, H⟩ := H; replace H : (if a3 = true then (targumlaw7_Float11Sixty.j2 k2 a2 x9_2 (⟨#[45]⟩ : ByteArray) t304 t305 t306 t307) else (targumlaw7_Float11Sixty.j2 k2 a2 x9_2 (⟨#[]⟩ : ByteArray) t304 t305 t306 t307)) = some r := H; have A22 := Aside0.mk A220; clear A220; have HC23 := Aside0.mk H; clear H
        go_upto_if 71 with (first | ((with_reducible refine gate_callee (f := 15) rfl ?_); refine goesL_ (some 65) rfl rfl Tryz.func15 (by kernel_rfl) rfl #[.int .i64 x10_2] rfl (by (try simp only [List.map_toArray, List.map_cons, List.map_nil]); first | done | rfl | (simp only [List.length_drop, List.length_take]; rfl)) ?_; (with_reducible refine (targumref4_Text.calls k2 x10_2 t302 _ A20.out).mono ?_); rintro e w24 ⟨rfl, hb⟩; refine ⟨_, rfl, ?_⟩; have n0_ := Aside0.mk (below_step bl hb); clear HB; have HB := n0_; clear n0_; (try clear hb); (try clear hb2); (try clear hk); (try clear hi)) | ((with_reducible refine gate_callee (f := 12) rfl ?_); refine goesL_ (some 67) rfl rfl Tryz.func12 (by kernel_rfl) rfl #[.string a2] rfl (by (try simp only [List.map_toArray, List.map_cons, List.map_nil]); first | done | rfl | (simp only [List.length_drop, List.length_take]; rfl)) ?_; (with_reducible refine (targumlaw7_digits.calls k2 a2 t303 _ A21.out).mono ?_); rintro e w25 ⟨rfl, hb⟩; refine ⟨_, rfl, ?_⟩; have n0_ := Aside0.mk (below_step bl hb); clear HB; have HB := n0_; clear n0_; (try clear hb); (try clear hb2); (try clear hk); (try clear hi)) | ((with_reducible refine gate_callee (f := 14) rfl ?_); refine goesL_ (some 68) rfl rfl Tryz.func14 (by kernel_rfl) rfl #[.bool a3, .string t302, .string t303, .string (⟨#[48]⟩ : ByteArray)] rfl (by (try simp only [List.map_toArray, List.map_cons, List.map_nil]); first | done | rfl | (simp only [List.length_drop, List.length_take]; rfl)) ?_; (with_reducible refine (targumref4_Make.calls k2 a3 t302 t303 (⟨#[48]⟩ : ByteArray) t304 t305 t306 t307 t308 _ A22.out).mono ?_); rintro e w26 ⟨rfl, hb⟩; refine ⟨_, rfl, ?_⟩; have n0_ := Aside0.mk (below_step bl hb); clear HB; have HB := n0_; clear n0_; (try clear hb); (try clear hb2); (try clear hk); (try clear hi)) | ((with_reducible refine gate_dst (N := 12) rfl ?_); (try (refine gate_guard (by rfl) ?_; dsimp only)); refine box_event ?hg (N := 12) ?hd (cs := #[.int .i64 0, .bool false, .string (⟨#[]⟩ : ByteArray), .string (⟨#[]⟩ : ByteArray)]) (t := 26) ?hr ?_; (case hd => rfl); (case hg => rfl); (case hr => first | (go_simp; done) | (go_simp; rfl)); intro gb309 hg w27 hbox hb; have n0_ := Aside0.mk (below_step bl hb); have n1_ := Aside0.mk (hbox); have n2_ := Aside0.mk ((by rw [hg]; exact (below_size bl) : w.heap.size ≤ gb309)); have n3_ := Aside0.mk ((by rw [hg]; exact (below_size bl) : w.heap.size ≤ gb309)); clear HB; have HB := n0_; have BK309 := n1_; have GW309 := n2_; have GE309 := n3_; clear n0_ n1_ n2_ n3_; clear hb hbox hg; have hcz28_0 : w27.cell? ⟨gb309, 0, none⟩ = some (.int .i64 0) := (blk_cell BK309.out 0).trans rfl; have hcz28_1 : w27.cell? ⟨gb309, 1, none⟩ = some (.bool false) := (blk_cell BK309.out 1).trans rfl; have hcz28_2 : w27.cell? ⟨gb309, 2, none⟩ = some (.string (⟨#[]⟩ : ByteArray)) := (blk_cell BK309.out 2).trans rfl; have hcz28_3 : w27.cell? ⟨gb309, 3, none⟩ = some (.string (⟨#[]⟩ : ByteArray)) := (blk_cell BK309.out 3).trans rfl; have hfz28_0 := blk_frozen BK309.out 0; have hfz28_1 := blk_frozen BK309.out 1; have hfz28_2 := blk_frozen BK309.out 2; have hfz28_3 := blk_frozen BK309.out 3))
        (try simp only [Act.put, List.setIfInBounds_toArray, List.set_cons_zero, List.set_cons_succ]); go_cut [14] (fun v14 wc => ∃ (kq : Nat) (x14_22 : ByteArray), v14 = .string x14_22 ∧ Aside0 (targumlaw7_Float11Sixty.j2 kq a2 x9_2 x14_22 t304 t305 t306 t307 = some r) ∧ Aside0 (kq ≤ k2) ∧ Aside0 (wc.heap[gb309]? = some (.cells #[.int .i64 t304, .bool t305, .string t306, .string t307] 26 (0, 0))) ∧ Aside0 (Below w.heap.size w wc))
        case first =>
         have H := HC23.out; clear HC23; by_cases c29 : a3 = true
         ·subst c29
          have H1 : (targumlaw7_Float11Sixty.j2 k2 a2 x9_2 (⟨#[45]⟩ : ByteArray) t304 t305 t306 t307) = some r := by rw [if_pos rfl] at H; exact H
          clear H; have H := H1; clear H1; have H' := Aside0.mk H; clear H; go_wp2; go_meet
          case rel => exact ⟨_, ((⟨#[45]⟩ : ByteArray)), (by first | rfl | (simp; done) | (simp [*]; done) | (simp [wrap64]; done)), H', ⟨by have := HJ6.out; have := HK2.out; first | omega | exact Nat.le_refl _⟩, ⟨by (with_reducible repeat (first | refine blk_drewN ?_ _ | refine blk_drew ?_ | refine blk_alloc ?_ _)); refine blk_put (cs := #[.int .i64 t304, .bool t305, .string t306, .string (⟨#[]⟩ : ByteArray)]) ?_ 3 _ rfl; (with_reducible repeat (first | refine blk_drewN ?_ _ | refine blk_drew ?_ | refine blk_alloc ?_ _)); refine blk_put (cs := #[.int .i64 t304, .bool t305, .string (⟨#[]⟩ : ByteArray), .string (⟨#[]⟩ : ByteArray)]) ?_ 2 _ rfl; (with_reducible repeat (first | refine blk_drewN ?_ _ | refine blk_drew ?_ | refine blk_alloc ?_ _)); refine blk_put (cs := #[.int .i64 t304, .bool false, .string (⟨#[]⟩ : ByteArray), .string (⟨#[]⟩ : ByteArray)]) ?_ 1 _ rfl; (with_reducible repeat (first | refine blk_drewN ?_ _ | refine blk_drew ?_ | refine blk_alloc ?_ _)); refine blk_put (cs := #[.int .i64 0, .bool false, .string (⟨#[]⟩ : ByteArray), .string (⟨#[]⟩ : ByteArray)]) ?_ 0 _ rfl; (with_reducible repeat (first | refine blk_drewN ?_ _ | refine blk_drew ?_ | refine blk_alloc ?_ _)); exact BK309.out⟩, ⟨bl⟩⟩
         ·replace c29 := Bool.eq_false_iff.mpr c29
          subst c29; have H1 : (targumlaw7_Float11Sixty.j2 k2 a2 x9_2 (⟨#[]⟩ : ByteArray) t304 t305 t306 t307) = some r := by rw [if_neg (show ¬ (false = true) by decide)] at H; exact H
          clear H; have H := H1; clear H1; have H' := Aside0.mk H; clear H; go_wp2; go_meet
          case rel => exact ⟨_, ((⟨#[]⟩ : ByteArray)), (by first | rfl | (simp; done) | (simp [*]; done) | (simp [wrap64]; done)), H', ⟨by have := HJ6.out; have := HK2.out; first | omega | exact Nat.le_refl _⟩, ⟨by (with_reducible repeat (first | refine blk_drewN ?_ _ | refine blk_drew ?_ | refine blk_alloc ?_ _)); refine blk_put (cs := #[.int .i64 t304, .bool t305, .string t306, .string (⟨#[]⟩ : ByteArray)]) ?_ 3 _ rfl; (with_reducible repeat (first | refine blk_drewN ?_ _ | refine blk_drew ?_ | refine blk_alloc ?_ _)); refine blk_put (cs := #[.int .i64 t304, .bool t305, .string (⟨#[]⟩ : ByteArray), .string (⟨#[]⟩ : ByteArray)]) ?_ 2 _ rfl; (with_reducible repeat (first | refine blk_drewN ?_ _ | refine blk_drew ?_ | refine blk_alloc ?_ _)); refine blk_put (cs := #[.int .i64 t304, .bool false, .string (⟨#[]⟩ : ByteArray), .string (⟨#[]⟩ : ByteArray)]) ?_ 1 _ rfl; (with_reducible repeat (first | refine blk_drewN ?_ _ | refine blk_drew ?_ | refine blk_alloc ?_ _)); refine blk_put (cs := #[.int .i64 0, .bool false, .string (⟨#[]⟩ : ByteArray), .string (⟨#[]⟩ : ByteArray)]) ?_ 0 _ rfl; (with_reducible repeat (first | refine blk_drewN ?_ _ | refine blk_drew ?_ | refine blk_alloc ?_ _)); exact BK309.out⟩, ⟨bl⟩⟩
        case rest =>
         clear HC23; try clear c1; try clear c6; try clear c11; try clear c14; try clear c14b0; try clear hcz28_0; try clear hcz28_1; try clear hcz28_2; try clear hcz28_3; try clear hfz28_0; try clear hfz28_1; try clear hfz28_2; try clear hfz28_3
         obtain ⟨kq, x14_22, rfl, HA, HJ22, BK309, HB⟩ := hcut; cases kq with
         | zero => exact absurd HA.out (by simp [targumlaw7_Float11Sixty.j2])
         | succ kj22 =>
          have H := HA.out; clear HA; simp only [targumlaw7_Float11Sixty.j2] at H; by_cases c30 : x14_22.size + x9_2.size ≤ 9223372036854775807
          ·rw [if_pos c30] at H
           have c30b0 := eq_true c30; have c30b1 : decide (x14_22.size + x9_2.size ≤ 9223372036854775807) = true := decide_eq_true c30; try have c30b2 : (9223372036854775807 < x14_22.size + x9_2.size) = False := eq_false (Nat.not_lt.2 c30)
           by_cases c31 : (x14_22 ++ x9_2).size + 1 ≤ 9223372036854775807
           ·rw [if_pos c31] at H
            have c31b0 := eq_true c31; have c31b1 : decide ((x14_22 ++ x9_2).size + 1 ≤ 9223372036854775807) = true := decide_eq_true c31; try have c31b2 : (9223372036854775807 < (x14_22 ++ x9_2).size + 1) = False := eq_false (Nat.not_lt.2 c31)
            try have c31b3 : (9223372036854775807 < x14_22.size + x9_2.size + 1) = False := eq_false (Nat.not_lt.2 (by have z_ := c31; simp only [ByteArray.size_append, ByteArray.size_extract, Nat.min_self] at z_; exact z_))
            replace H := Option.bind_eq_some_iff.mp H; obtain ⟨t310, A320, H⟩ := H; replace H : (if ((x14_22 ++ x9_2) ++ (⟨#[46]⟩ : ByteArray)).size + t310.size ≤ 9223372036854775807 then ((float11_Of.f kj22 (((x14_22 ++ x9_2) ++ (⟨#[46]⟩ : ByteArray)) ++ t310)).bind fun bt311 => (if bt311.2.2.2.2 = true then (if (bt311.1 == t304 && (bt311.2.1 == t305 && (bt311.2.2.1.toList == t306.toList && (bt311.2.2.2.1.toList == t307.toList)))) = true then (if x9_2.size + 1 ≤ 9223372036854775807 then ((targumlaw7_digits.f kj22 a2).bind fun t317 => (if (x9_2 ++ (⟨#[46]⟩ : ByteArray)).size + t317.size ≤ 9223372036854775807 then ((float11_Form.f kj22 ((x9_2 ++ (⟨#[46]⟩ : ByteArray)) ++ t317)).bind fun t318 => (if t318 = 3 then ((float11_Is.f kj22 x9_2).bind fun t319 => (if t319 = true then (some false) else ((targumlaw7_digits.f kj22 a2).bind fun t320 => (if (x9_2 ++ (⟨#[46]⟩ : ByteArray)).size + t320.size ≤ 9223372036854775807 then (if ((x9_2 ++ (⟨#[46]⟩ : ByteArray)) ++ t320).size + 3 ≤ 9223372036854775807 then ((float11_Is.f kj22 (((x9_2 ++ (⟨#[46]⟩ : ByteArray)) ++ t320) ++ (⟨#[101, 43, 49]⟩ : ByteArray))).bind fun t321 => (if t321 = true then (some false) else (if x9_2.size + 2 ≤ 9223372036854775807 then ((targumlaw7_digits.f kj22 a2).bind fun t322 => (if (x9_2 ++ (⟨#[58, 46]⟩ : ByteArray)).size + t322.size ≤ 9223372036854775807 then ((float11_Is.f kj22 ((x9_2 ++ (⟨#[58, 46]⟩ : ByteArray)) ++ t322)).bind fun t323 => (some (!t323))) else (none))) else (none)))) else (none)) else (none))))) else (some false))) else (none))) else (none)) else (some false)) else (some false))) else (none)) = some r := H; have A32 := Aside0.mk A320; clear A320; by_cases c33 : ((x14_22 ++ x9_2) ++ (⟨#[46]⟩ : ByteArray)).size + t310.size ≤ 9223372036854775807
            ·rw [if_pos c33] at H
             have c33b0 := eq_true c33; have c33b1 : decide (((x14_22 ++ x9_2) ++ (⟨#[46]⟩ : ByteArray)).size + t310.size ≤ 9223372036854775807) = true := decide_eq_true c33; try have c33b2 : (9223372036854775807 < ((x14_22 ++ x9_2) ++ (⟨#[46]⟩ : ByteArray)).size + t310.size) = False := eq_false (Nat.not_lt.2 c33)
             try have c33b3 : (9223372036854775807 < x14_22.size + x9_2.size + 1 + t310.size) = False := eq_false (Nat.not_lt.2 (by have z_ := c33; simp only [ByteArray.size_append, ByteArray.size_extract, Nat.min_self] at z_; exact z_))
             replace H := Option.bind_eq_some_iff.mp H; obtain ⟨⟨t311, t312, t313, t314, t315⟩, A340, H⟩ := H; replace H : (if t315 = true then (if (t311 == t304 && (t312 == t305 && (t313.toList == t306.toList && (t314.toList == t307.toList)))) = true then (if x9_2.size + 1 ≤ 9223372036854775807 then ((targumlaw7_digits.f kj22 a2).bind fun t317 => (if (x9_2 ++ (⟨#[46]⟩ : ByteArray)).size + t317.size ≤ 9223372036854775807 then ((float11_Form.f kj22 ((x9_2 ++ (⟨#[46]⟩ : ByteArray)) ++ t317)).bind fun t318 => (if t318 = 3 then ((float11_Is.f kj22 x9_2).bind fun t319 => (if t319 = true then (some false) else ((targumlaw7_digits.f kj22 a2).bind fun t320 => (if (x9_2 ++ (⟨#[46]⟩ : ByteArray)).size + t320.size ≤ 9223372036854775807 then (if ((x9_2 ++ (⟨#[46]⟩ : ByteArray)) ++ t320).size + 3 ≤ 9223372036854775807 then ((float11_Is.f kj22 (((x9_2 ++ (⟨#[46]⟩ : ByteArray)) ++ t320) ++ (⟨#[101, 43, 49]⟩ : ByteArray))).bind fun t321 => (if t321 = true then (some false) else (if x9_2.size + 2 ≤ 9223372036854775807 then ((targumlaw7_digits.f kj22 a2).bind fun t322 => (if (x9_2 ++ (⟨#[58, 46]⟩ : ByteArray)).size + t322.size ≤ 9223372036854775807 then ((float11_Is.f kj22 ((x9_2 ++ (⟨#[58, 46]⟩ : ByteArray)) ++ t322)).bind fun t323 => (some (!t323))) else (none))) else (none)))) else (none)) else (none))))) else (some false))) else (none))) else (none)) else (some false)) else (some false)) = some r := H; have A34 := Aside0.mk A340; clear A340; refine Classical.byCases (p := (t315 = true)) (fun c35 => ?x14) (fun c35 => ?y14)
             case' x14 =>
              subst c35; have H1 : (if (t311 == t304 && (t312 == t305 && (t313.toList == t306.toList && (t314.toList == t307.toList)))) = true then (if x9_2.size + 1 ≤ 9223372036854775807 then ((targumlaw7_digits.f kj22 a2).bind fun t317 => (if (x9_2 ++ (⟨#[46]⟩ : ByteArray)).size + t317.size ≤ 9223372036854775807 then ((float11_Form.f kj22 ((x9_2 ++ (⟨#[46]⟩ : ByteArray)) ++ t317)).bind fun t318 => (if t318 = 3 then ((float11_Is.f kj22 x9_2).bind fun t319 => (if t319 = true then (some false) else ((targumlaw7_digits.f kj22 a2).bind fun t320 => (if (x9_2 ++ (⟨#[46]⟩ : ByteArray)).size + t320.size ≤ 9223372036854775807 then (if ((x9_2 ++ (⟨#[46]⟩ : ByteArray)) ++ t320).size + 3 ≤ 9223372036854775807 then ((float11_Is.f kj22 (((x9_2 ++ (⟨#[46]⟩ : ByteArray)) ++ t320) ++ (⟨#[101, 43, 49]⟩ : ByteArray))).bind fun t321 => (if t321 = true then (some false) else (if x9_2.size + 2 ≤ 9223372036854775807 then ((targumlaw7_digits.f kj22 a2).bind fun t322 => (if (x9_2 ++ (⟨#[58, 46]⟩ : ByteArray)).size + t322.size ≤ 9223372036854775807 then ((float11_Is.f kj22 ((x9_2 ++ (⟨#[58, 46]⟩ : ByteArray)) ++ t322)).bind fun t323 => (some (!t323))) else (none))) else (none)))) else (none)) else (none))))) else (some false))) else (none))) else (none)) else (some false)) = some r := by rw [if_pos rfl] at H; exact H
              clear H; have H := H1; clear H1; refine Classical.byCases (p := ((t311 == t304 && (t312 == t305 && (t313.toList == t306.toList && (t314.toList == t307.toList)))) = true)) (fun c36 => ?x15) (fun c36 => ?y15)
              case' x15 =>
               rw [if_pos c36] at H; have c36b0 : (t311 == t304 && (t312 == t305 && (t313.toList == t306.toList && (t314.toList == t307.toList)))) = true := c36; (try (have c36b1 : decide (t311 = t304 && (t312 == t305 && (t313.toList == t306.toList && (t314.toList == t307.toList)))) = true := by simpa using c36)); (try (have c36b2 : (t311 == t304 && (t312 == t305 && (t313.toList == t306.toList && (t314.toList == t307.toList)))) = true := by simpa using c36)); clear c36; by_cases c37 : x9_2.size + 1 ≤ 9223372036854775807
               ·rw [if_pos c37] at H
                have c37b0 := eq_true c37; have c37b1 : decide (x9_2.size + 1 ≤ 9223372036854775807) = true := decide_eq_true c37; try have c37b2 : (9223372036854775807 < x9_2.size + 1) = False := eq_false (Nat.not_lt.2 c37)
                replace H := Option.bind_eq_some_iff.mp H; obtain ⟨t317, A380, H⟩ := H; replace H : (if (x9_2 ++ (⟨#[46]⟩ : ByteArray)).size + t317.size ≤ 9223372036854775807 then ((float11_Form.f kj22 ((x9_2 ++ (⟨#[46]⟩ : ByteArray)) ++ t317)).bind fun t318 => (if t318 = 3 then ((float11_Is.f kj22 x9_2).bind fun t319 => (if t319 = true then (some false) else ((targumlaw7_digits.f kj22 a2).bind fun t320 => (if (x9_2 ++ (⟨#[46]⟩ : ByteArray)).size + t320.size ≤ 9223372036854775807 then (if ((x9_2 ++ (⟨#[46]⟩ : ByteArray)) ++ t320).size + 3 ≤ 9223372036854775807 then ((float11_Is.f kj22 (((x9_2 ++ (⟨#[46]⟩ : ByteArray)) ++ t320) ++ (⟨#[101, 43, 49]⟩ : ByteArray))).bind fun t321 => (if t321 = true then (some false) else (if x9_2.size + 2 ≤ 9223372036854775807 then ((targumlaw7_digits.f kj22 a2).bind fun t322 => (if (x9_2 ++ (⟨#[58, 46]⟩ : ByteArray)).size + t322.size ≤ 9223372036854775807 then ((float11_Is.f kj22 ((x9_2 ++ (⟨#[58, 46]⟩ : ByteArray)) ++ t322)).bind fun t323 => (some (!t323))) else (none))) else (none)))) else (none)) else (none))))) else (some false))) else (none)) = some r := H; have A38 := Aside0.mk A380; clear A380; by_cases c39 : (x9_2 ++ (⟨#[46]⟩ : ByteArray)).size + t317.size ≤ 9223372036854775807
                ·rw [if_pos c39] at H
                 have c39b0 := eq_true c39; have c39b1 : decide ((x9_2 ++ (⟨#[46]⟩ : ByteArray)).size + t317.size ≤ 9223372036854775807) = true := decide_eq_true c39; try have c39b2 : (9223372036854775807 < (x9_2 ++ (⟨#[46]⟩ : ByteArray)).size + t317.size) = False := eq_false (Nat.not_lt.2 c39)
                 try have c39b3 : (9223372036854775807 < x9_2.size + 1 + t317.size) = False := eq_false (Nat.not_lt.2 (by have z_ := c39; simp only [ByteArray.size_append, ByteArray.size_extract, Nat.min_self] at z_; exact z_))
                 replace H := Option.bind_eq_some_iff.mp H; obtain ⟨t318, A400, H⟩ := H; replace H : (if t318 = 3 then ((float11_Is.f kj22 x9_2).bind fun t319 => (if t319 = true then (some false) else ((targumlaw7_digits.f kj22 a2).bind fun t320 => (if (x9_2 ++ (⟨#[46]⟩ : ByteArray)).size + t320.size ≤ 9223372036854775807 then (if ((x9_2 ++ (⟨#[46]⟩ : ByteArray)) ++ t320).size + 3 ≤ 9223372036854775807 then ((float11_Is.f kj22 (((x9_2 ++ (⟨#[46]⟩ : ByteArray)) ++ t320) ++ (⟨#[101, 43, 49]⟩ : ByteArray))).bind fun t321 => (if t321 = true then (some false) else (if x9_2.size + 2 ≤ 9223372036854775807 then ((targumlaw7_digits.f kj22 a2).bind fun t322 => (if (x9_2 ++ (⟨#[58, 46]⟩ : ByteArray)).size + t322.size ≤ 9223372036854775807 then ((float11_Is.f kj22 ((x9_2 ++ (⟨#[58, 46]⟩ : ByteArray)) ++ t322)).bind fun t323 => (some (!t323))) else (none))) else (none)))) else (none)) else (none))))) else (some false)) = some r := H; have A40 := Aside0.mk A400; clear A400; refine Classical.byCases (p := (t318 = 3)) (fun c41 => ?x7) (fun c41 => ?y7)
                 case' x7 =>
                  rw [if_pos c41] at H; have c41b0 : (t318 == 3) = true := beq_iff_eq.mpr c41; have c41b1 : (t318 != 3) = false := bne_eq_false_iff_eq.mpr c41; clear c41; replace H := Option.bind_eq_some_iff.mp H; obtain ⟨t319, A420, H⟩ := H; replace H : (if t319 = true then (some false) else ((targumlaw7_digits.f kj22 a2).bind fun t320 => (if (x9_2 ++ (⟨#[46]⟩ : ByteArray)).size + t320.size ≤ 9223372036854775807 then (if ((x9_2 ++ (⟨#[46]⟩ : ByteArray)) ++ t320).size + 3 ≤ 9223372036854775807 then ((float11_Is.f kj22 (((x9_2 ++ (⟨#[46]⟩ : ByteArray)) ++ t320) ++ (⟨#[101, 43, 49]⟩ : ByteArray))).bind fun t321 => (if t321 = true then (some false) else (if x9_2.size + 2 ≤ 9223372036854775807 then ((targumlaw7_digits.f kj22 a2).bind fun t322 => (if (x9_2 ++ (⟨#[58, 46]⟩ : ByteArray)).size + t322.size ≤ 9223372036854775807 then ((float11_Is.f kj22 ((x9_2 ++ (⟨#[58, 46]⟩ : ByteArray)) ++ t322)).bind fun t323 => (some (!t323))) else (none))) else (none)))) else (none)) else (none)))) = some r := H; have A42 := Aside0.mk A420; clear A420; refine Classical.byCases (p := (t319 = true)) (fun c43 => ?x8) (fun c43 => ?y8)
                  case' x8 =>
                   subst c43; have H1 : (some false) = some r := by rw [if_pos rfl] at H; exact H
                   clear H; have H := H1; clear H1; obtain rfl := Option.some.inj H; skip
                  case' y8 =>
                   replace c43 := Bool.eq_false_iff.mpr c43; subst c43; have H1 : ((targumlaw7_digits.f kj22 a2).bind fun t320 => (if (x9_2 ++ (⟨#[46]⟩ : ByteArray)).size + t320.size ≤ 9223372036854775807 then (if ((x9_2 ++ (⟨#[46]⟩ : ByteArray)) ++ t320).size + 3 ≤ 9223372036854775807 then ((float11_Is.f kj22 (((x9_2 ++ (⟨#[46]⟩ : ByteArray)) ++ t320) ++ (⟨#[101, 43, 49]⟩ : ByteArray))).bind fun t321 => (if t321 = true then (some false) else (if x9_2.size + 2 ≤ 9223372036854775807 then ((targumlaw7_digits.f kj22 a2).bind fun t322 => (if (x9_2 ++ (⟨#[58, 46]⟩ : ByteArray)).size + t322.size ≤ 9223372036854775807 then ((float11_Is.f kj22 ((x9_2 ++ (⟨#[58, 46]⟩ : ByteArray)) ++ t322)).bind fun t323 => (some (!t323))) else (none))) else (none)))) else (none)) else (none))) = some r := by rw [if_neg (show ¬ (false = true) by decide)] at H; exact H
                   clear H; have H := H1; clear H1; replace H := Option.bind_eq_some_iff.mp H; obtain ⟨t320, A530, H⟩ := H; replace H : (if (x9_2 ++ (⟨#[46]⟩ : ByteArray)).size + t320.size ≤ 9223372036854775807 then (if ((x9_2 ++ (⟨#[46]⟩ : ByteArray)) ++ t320).size + 3 ≤ 9223372036854775807 then ((float11_Is.f kj22 (((x9_2 ++ (⟨#[46]⟩ : ByteArray)) ++ t320) ++ (⟨#[101, 43, 49]⟩ : ByteArray))).bind fun t321 => (if t321 = true then (some false) else (if x9_2.size + 2 ≤ 9223372036854775807 then ((targumlaw7_digits.f kj22 a2).bind fun t322 => (if (x9_2 ++ (⟨#[58, 46]⟩ : ByteArray)).size + t322.size ≤ 9223372036854775807 then ((float11_Is.f kj22 ((x9_2 ++ (⟨#[58, 46]⟩ : ByteArray)) ++ t322)).bind fun t323 => (some (!t323))) else (none))) else (none)))) else (none)) else (none)) = some r := H; have A53 := Aside0.mk A530; clear A530; refine Classical.byCases (p := ((x9_2 ++ (⟨#[46]⟩ : ByteArray)).size + t320.size ≤ 9223372036854775807)) (fun c54 => ?x9) (fun c54 => ?y9)
                   case' x9 =>
                    rw [if_pos c54] at H; have c54b0 := eq_true c54; have c54b1 : decide ((x9_2 ++ (⟨#[46]⟩ : ByteArray)).size + t320.size ≤ 9223372036854775807) = true := decide_eq_true c54; try have c54b2 : (9223372036854775807 < (x9_2 ++ (⟨#[46]⟩ : ByteArray)).size + t320.size) = False := eq_false (Nat.not_lt.2 c54)
                    try have c54b3 : (9223372036854775807 < x9_2.size + 1 + t320.size) = False := eq_false (Nat.not_lt.2 (by have z_ := c54; simp only [ByteArray.size_append, ByteArray.size_extract, Nat.min_self] at z_; exact z_))
                    refine Classical.byCases (p := (((x9_2 ++ (⟨#[46]⟩ : ByteArray)) ++ t320).size + 3 ≤ 9223372036854775807)) (fun c55 => ?x10) (fun c55 => ?y10)
                    case' x10 =>
                     rw [if_pos c55] at H; have c55b0 := eq_true c55; have c55b1 : decide (((x9_2 ++ (⟨#[46]⟩ : ByteArray)) ++ t320).size + 3 ≤ 9223372036854775807) = true := decide_eq_true c55; try have c55b2 : (9223372036854775807 < ((x9_2 ++ (⟨#[46]⟩ : ByteArray)) ++ t320).size + 3) = False := eq_false (Nat.not_lt.2 c55)
                     try have c55b3 : (9223372036854775807 < x9_2.size + 1 + t320.size + 3) = False := eq_false (Nat.not_lt.2 (by have z_ := c55; simp only [ByteArray.size_append, ByteArray.size_extract, Nat.min_self] at z_; exact z_))
                     replace H := Option.bind_eq_some_iff.mp H; obtain ⟨t321, A560, H⟩ := H; replace H : (if t321 = true then (some false) else (if x9_2.size + 2 ≤ 9223372036854775807 then ((targumlaw7_digits.f kj22 a2).bind fun t322 => (if (x9_2 ++ (⟨#[58, 46]⟩ : ByteArray)).size + t322.size ≤ 9223372036854775807 then ((float11_Is.f kj22 ((x9_2 ++ (⟨#[58, 46]⟩ : ByteArray)) ++ t322)).bind fun t323 => (some (!t323))) else (none))) else (none))) = some r := H; have A56 := Aside0.mk A560; clear A560; refine Classical.byCases (p := (t321 = true)) (fun c57 => ?x11) (fun c57 => ?y11)
                     case' x11 =>
                      subst c57; have H1 : (some false) = some r := by rw [if_pos rfl] at H; exact H
                      clear H; have H := H1; clear H1; obtain rfl := Option.some.inj H; skip
                     case' y11 =>
                      replace c57 := Bool.eq_false_iff.mpr c57; subst c57; have H1 : (if x9_2.size + 2 ≤ 9223372036854775807 then ((targumlaw7_digits.f kj22 a2).bind fun t322 => (if (x9_2 ++ (⟨#[58, 46]⟩ : ByteArray)).size + t322.size ≤ 9223372036854775807 then ((float11_Is.f kj22 ((x9_2 ++ (⟨#[58, 46]⟩ : ByteArray)) ++ t322)).bind fun t323 => (some (!t323))) else (none))) else (none)) = some r := by rw [if_neg (show ¬ (false = true) by decide)] at H; exact H
                      clear H; have H := H1; clear H1; refine Classical.byCases (p := (x9_2.size + 2 ≤ 9223372036854775807)) (fun c69 => ?x12) (fun c69 => ?y12)
                      case' x12 =>
                       rw [if_pos c69] at H; have c69b0 := eq_true c69; have c69b1 : decide (x9_2.size + 2 ≤ 9223372036854775807) = true := decide_eq_true c69; try have c69b2 : (9223372036854775807 < x9_2.size + 2) = False := eq_false (Nat.not_lt.2 c69)
                       replace H := Option.bind_eq_some_iff.mp H; obtain ⟨t322, A700, H⟩ := H; replace H : (if (x9_2 ++ (⟨#[58, 46]⟩ : ByteArray)).size + t322.size ≤ 9223372036854775807 then ((float11_Is.f kj22 ((x9_2 ++ (⟨#[58, 46]⟩ : ByteArray)) ++ t322)).bind fun t323 => (some (!t323))) else (none)) = some r := H; have A70 := Aside0.mk A700; clear A700; refine Classical.byCases (p := ((x9_2 ++ (⟨#[58, 46]⟩ : ByteArray)).size + t322.size ≤ 9223372036854775807)) (fun c71 => ?x13) (fun c71 => ?y13)
                       case' x13 =>
                        rw [if_pos c71] at H; have c71b0 := eq_true c71; have c71b1 : decide ((x9_2 ++ (⟨#[58, 46]⟩ : ByteArray)).size + t322.size ≤ 9223372036854775807) = true := decide_eq_true c71; try have c71b2 : (9223372036854775807 < (x9_2 ++ (⟨#[58, 46]⟩ : ByteArray)).size + t322.size) = False := eq_false (Nat.not_lt.2 c71)
                        try have c71b3 : (9223372036854775807 < x9_2.size + 2 + t322.size) = False := eq_false (Nat.not_lt.2 (by have z_ := c71; simp only [ByteArray.size_append, ByteArray.size_extract, Nat.min_self] at z_; exact z_))
                        replace H := Option.bind_eq_some_iff.mp H; obtain ⟨t323, A720, H⟩ := H; replace H : (some (!t323)) = some r := H; have A72 := Aside0.mk A720; clear A720; obtain rfl := Option.some.inj H; skip
                       case' y13 =>
                        rw [if_neg c71] at H; exact absurd H (by simp)
                      case' y12 =>
                       rw [if_neg c69] at H; exact absurd H (by simp)
                    case' y10 =>
                     rw [if_neg c55] at H; exact absurd H (by simp)
                   case' y9 =>
                    rw [if_neg c54] at H; exact absurd H (by simp)
                 case' y7 =>
                  rw [if_neg c41] at H; have c41b0 : (t318 == 3) = false := beq_eq_false_iff_ne.mpr c41; have c41b1 : (t318 != 3) = true := bne_iff_ne.mpr c41; obtain rfl := Option.some.inj H; skip
                 case x8 | x11 | y11 | y7 =>
                  as_aux_lemma =>
                   go_wp2_with (first | ((with_reducible refine gate_callee (f := 12) rfl ?_); refine goesL_ (some 78) rfl rfl Tryz.func12 (by kernel_rfl) rfl #[.string a2] rfl (by (try simp only [List.map_toArray, List.map_cons, List.map_nil]); first | done | rfl | (simp only [List.length_drop, List.length_take]; rfl)) ?_; (with_reducible refine (targumlaw7_digits.calls _ _ _ _ A32.out).mono ?_); rintro e w73 ⟨rfl, hb⟩; refine ⟨_, rfl, ?_⟩; have n0_ := Aside0.mk (blk_below (g := gb309) (o := .cells #[.int .i64 t304, .bool t305, .string t306, .string t307] 26 (0, 0)) bk hb); have n1_ := Aside0.mk (below_step bl hb); clear BK309; clear HB; have BK309 := n0_; have HB := n1_; clear n0_ n1_; (try clear hb); (try clear hb2); (try clear hk); (try clear hi); clear A32) | ((with_reducible refine gate_callee (f := 8) rfl ?_); refine goesL_ (some 80) rfl rfl Tryz.func8 (by kernel_rfl) rfl #[.string (((x14_22 ++ x9_2) ++ (⟨#[46]⟩ : ByteArray)) ++ t310)] rfl (by (try simp only [List.map_toArray, List.map_cons, List.map_nil]); first | done | rfl | (simp only [List.length_drop, List.length_take]; rfl)) ?_; (with_reducible refine (float11_Of.calls _ _ _ _ _ _ _ _ ?side1 A34.out).mono ?_); (case side1 => exact Go.Proofs.YtkijneohhilboaaGreatDoor.PKT.Tabs_below HG.out bl); rintro e w74 ⟨rfl, hb⟩; refine ⟨_, rfl, ?_⟩; have n0_ := Aside0.mk (blk_below (g := gb309) (o := .cells #[.int .i64 t304, .bool t305, .string t306, .string t307] 26 (0, 0)) bk hb); have n1_ := Aside0.mk (below_step bl hb); clear BK309; clear HB; have BK309 := n0_; have HB := n1_; clear n0_ n1_; (try clear hb); (try clear hb2); (try clear hk); (try clear hi)) | ((with_reducible refine gate_dst (N := 15) rfl ?_); (try (refine gate_guard (by rfl) ?_; dsimp only)); refine box_event ?hg (N := 15) ?hd (cs := #[.int .i64 0, .bool false, .string (⟨#[]⟩ : ByteArray), .string (⟨#[]⟩ : ByteArray)]) (t := 26) ?hr ?_; (case hd => rfl); (case hg => rfl); (case hr => first | (go_simp; done) | (go_simp; rfl)); intro gb316 hg w75 hbox hb; have n0_ := Aside0.mk (blk_below (g := gb309) (o := .cells #[.int .i64 t304, .bool t305, .string t306, .string t307] 26 (0, 0)) bk hb); have n1_ := Aside0.mk (below_step bl hb); have n2_ := Aside0.mk (hbox); have n3_ := Aside0.mk ((by rw [hg]; exact (below_size bl) : w.heap.size ≤ gb316)); have n4_ := Aside0.mk ((by rw [hg]; exact (below_size bl) : w.heap.size ≤ gb316)); have n5_ := Aside0.mk ((by rw [hg]; exact Nat.ne_of_lt (blk_lt (g := gb309) (o := .cells #[.int .i64 t304, .bool t305, .string t306, .string t307] 26 (0, 0)) bk) : gb309 ≠ gb316)); have n6_ := Aside0.mk ((by rw [hg]; exact Nat.ne_of_gt (blk_lt (g := gb309) (o := .cells #[.int .i64 t304, .bool t305, .string t306, .string t307] 26 (0, 0)) bk) : gb316 ≠ gb309)); clear BK309; clear HB; have BK309 := n0_; have HB := n1_; have BK316 := n2_; have GW316 := n3_; have GE316 := n4_; have NB309_316 := n5_; have NB316_309 := n6_; clear n0_ n1_ n2_ n3_ n4_ n5_ n6_; clear hb hbox hg; have hnb76 := NB316_309.out; have hnc76 := NB309_316.out; have hcz77_0 : w75.cell? ⟨gb316, 0, none⟩ = some (.int .i64 0) := (blk_cell BK316.out 0).trans rfl; have hcz77_1 : w75.cell? ⟨gb316, 1, none⟩ = some (.bool false) := (blk_cell BK316.out 1).trans rfl; have hcz77_2 : w75.cell? ⟨gb316, 2, none⟩ = some (.string (⟨#[]⟩ : ByteArray)) := (blk_cell BK316.out 2).trans rfl; have hcz77_3 : w75.cell? ⟨gb316, 3, none⟩ = some (.string (⟨#[]⟩ : ByteArray)) := (blk_cell BK316.out 3).trans rfl; have hfz77_0 := blk_frozen BK316.out 0; have hfz77_1 := blk_frozen BK316.out 1; have hfz77_2 := blk_frozen BK316.out 2; have hfz77_3 := blk_frozen BK316.out 3; have hcz78_0 : w75.cell? ⟨gb309, 0, none⟩ = some (.int .i64 t304) := (blk_cell BK309.out 0).trans rfl; have hcz78_1 : w75.cell? ⟨gb309, 1, none⟩ = some (.bool t305) := (blk_cell BK309.out 1).trans rfl; have hcz78_2 : w75.cell? ⟨gb309, 2, none⟩ = some (.string t306) := (blk_cell BK309.out 2).trans rfl; have hcz78_3 : w75.cell? ⟨gb309, 3, none⟩ = some (.string t307) := (blk_cell BK309.out 3).trans rfl; have hfz78_0 := blk_frozen BK309.out 0; have hfz78_1 := blk_frozen BK309.out 1; have hfz78_2 := blk_frozen BK309.out 2; have hfz78_3 := blk_frozen BK309.out 3) | (go_at_call 12; (with_reducible refine (targumlaw7_digits.calls _ _ _ _ A38.out).mono ?_); rintro e w79 ⟨rfl, hb⟩; have n0_ := Aside0.mk (blk_below (g := gb309) (o := .cells #[.int .i64 t304, .bool t305, .string t306, .string t307] 26 (0, 0)) bk hb); have n1_ := Aside0.mk (blk_below (g := gb316) (o := .cells #[.int .i64 t311, .bool t312, .string t313, .string t314] 26 (0, 0)) bk hb); have n2_ := Aside0.mk (below_step bl hb); clear BK309; clear BK316; clear HB; have BK309 := n0_; have BK316 := n1_; have HB := n2_; clear n0_ n1_ n2_; (try clear hb); (try clear hb2); (try clear hk); (try clear hi); clear A38) | (go_at_call 11; (with_reducible refine (float11_Form.calls _ _ _ _ A40.out).mono ?_); rintro e w80 ⟨rfl, hb⟩; have n0_ := Aside0.mk (blk_below (g := gb309) (o := .cells #[.int .i64 t304, .bool t305, .string t306, .string t307] 26 (0, 0)) bk hb); have n1_ := Aside0.mk (blk_below (g := gb316) (o := .cells #[.int .i64 t311, .bool t312, .string t313, .string t314] 26 (0, 0)) bk hb); have n2_ := Aside0.mk (below_step bl hb); clear BK309; clear BK316; clear HB; have BK309 := n0_; have BK316 := n1_; have HB := n2_; clear n0_ n1_ n2_; (try clear hb); (try clear hb2); (try clear hk); (try clear hi)) | (go_at_call 10; (with_reducible refine (float11_Is.calls _ _ _ _ A42.out).mono ?_); rintro e w81 ⟨rfl, hb⟩; have n0_ := Aside0.mk (blk_below (g := gb309) (o := .cells #[.int .i64 t304, .bool t305, .string t306, .string t307] 26 (0, 0)) bk hb); have n1_ := Aside0.mk (blk_below (g := gb316) (o := .cells #[.int .i64 t311, .bool t312, .string t313, .string t314] 26 (0, 0)) bk hb); have n2_ := Aside0.mk (below_step bl hb); clear BK309; clear BK316; clear HB; have BK309 := n0_; have BK316 := n1_; have HB := n2_; clear n0_ n1_ n2_; (try clear hb); (try clear hb2); (try clear hk); (try clear hi)) | (go_at_call 12; (with_reducible refine (targumlaw7_digits.calls _ _ _ _ A53.out).mono ?_); rintro e w82 ⟨rfl, hb⟩; have n0_ := Aside0.mk (blk_below (g := gb309) (o := .cells #[.int .i64 t304, .bool t305, .string t306, .string t307] 26 (0, 0)) bk hb); have n1_ := Aside0.mk (blk_below (g := gb316) (o := .cells #[.int .i64 t311, .bool t312, .string t313, .string t314] 26 (0, 0)) bk hb); have n2_ := Aside0.mk (below_step bl hb); clear BK309; clear BK316; clear HB; have BK309 := n0_; have BK316 := n1_; have HB := n2_; clear n0_ n1_ n2_; (try clear hb); (try clear hb2); (try clear hk); (try clear hi); clear A53) | (go_at_call 10; (with_reducible refine (float11_Is.calls _ _ _ _ A56.out).mono ?_); rintro e w83 ⟨rfl, hb⟩; have n0_ := Aside0.mk (blk_below (g := gb309) (o := .cells #[.int .i64 t304, .bool t305, .string t306, .string t307] 26 (0, 0)) bk hb); have n1_ := Aside0.mk (blk_below (g := gb316) (o := .cells #[.int .i64 t311, .bool t312, .string t313, .string t314] 26 (0, 0)) bk hb); have n2_ := Aside0.mk (below_step bl hb); clear BK309; clear BK316; clear HB; have BK309 := n0_; have BK316 := n1_; have HB := n2_; clear n0_ n1_ n2_; (try clear hb); (try clear hb2); (try clear hk); (try clear hi)) | (go_at_call 12; (with_reducible refine (targumlaw7_digits.calls _ _ _ _ A70.out).mono ?_); rintro e w84 ⟨rfl, hb⟩; have n0_ := Aside0.mk (blk_below (g := gb309) (o := .cells #[.int .i64 t304, .bool t305, .string t306, .string t307] 26 (0, 0)) bk hb); have n1_ := Aside0.mk (blk_below (g := gb316) (o := .cells #[.int .i64 t311, .bool t312, .string t313, .string t314] 26 (0, 0)) bk hb); have n2_ := Aside0.mk (below_step bl hb); clear BK309; clear BK316; clear HB; have BK309 := n0_; have BK316 := n1_; have HB := n2_; clear n0_ n1_ n2_; (try clear hb); (try clear hb2); (try clear hk); (try clear hi); clear A70) | (go_at_call 10; (with_reducible refine (float11_Is.calls _ _ _ _ A72.out).mono ?_); rintro e w85 ⟨rfl, hb⟩; have n0_ := Aside0.mk (blk_below (g := gb309) (o := .cells #[.int .i64 t304, .bool t305, .string t306, .string t307] 26 (0, 0)) bk hb); have n1_ := Aside0.mk (blk_below (g := gb316) (o := .cells #[.int .i64 t311, .bool t312, .string t313, .string t314] 26 (0, 0)) bk hb); have n2_ := Aside0.mk (below_step bl hb); clear BK309; clear BK316; clear HB; have BK309 := n0_; have BK316 := n1_; have HB := n2_; clear n0_ n1_ n2_; (try clear hb); (try clear hb2); (try clear hk); (try clear hi)))
                   go_ret
                   exact ⟨by first | rfl | (simp [errW_none, errW_some] <;> rfl) | (simp [*, errW_none, errW_some] <;> rfl), bl⟩
                ·rw [if_neg c39] at H
                 exact absurd H (by simp)
               ·rw [if_neg c37] at H
                exact absurd H (by simp)
              case' y15 =>
               rw [if_neg c36] at H; have c36b0 : (t311 == t304 && (t312 == t305 && (t313.toList == t306.toList && (t314.toList == t307.toList)))) = false := by simpa using c36
               (try (have c36b1 : decide (t311 = t304 && (t312 == t305 && (t313.toList == t306.toList && (t314.toList == t307.toList)))) = false := by simpa using c36)); (try (have c36b2 : (t311 == t304 && (t312 == t305 && (t313.toList == t306.toList && (t314.toList == t307.toList)))) = false := by simpa using c36)); (try (have c36b3 : ¬ (t311 = t304 && (t312 == t305 && (t313.toList == t306.toList && (t314.toList == t307.toList)))) := by simpa using c36)); clear c36; obtain rfl := Option.some.inj H; skip
             case' y14 =>
              replace c35 := Bool.eq_false_iff.mpr c35; subst c35; have H1 : (some false) = some r := by rw [if_neg (show ¬ (false = true) by decide)] at H; exact H
              clear H; have H := H1; clear H1; obtain rfl := Option.some.inj H; skip
             case x14 | y14 =>
              as_aux_lemma =>
               go_wp2_with (first | ((with_reducible refine gate_callee (f := 12) rfl ?_); refine goesL_ (some 78) rfl rfl Tryz.func12 (by kernel_rfl) rfl #[.string a2] rfl (by (try simp only [List.map_toArray, List.map_cons, List.map_nil]); first | done | rfl | (simp only [List.length_drop, List.length_take]; rfl)) ?_; (with_reducible refine (targumlaw7_digits.calls _ _ _ _ A32.out).mono ?_); rintro e w94 ⟨rfl, hb⟩; refine ⟨_, rfl, ?_⟩; have n0_ := Aside0.mk (blk_below (g := gb309) (o := .cells #[.int .i64 t304, .bool t305, .string t306, .string t307] 26 (0, 0)) bk hb); have n1_ := Aside0.mk (below_step bl hb); clear BK309; clear HB; have BK309 := n0_; have HB := n1_; clear n0_ n1_; (try clear hb); (try clear hb2); (try clear hk); (try clear hi)) | ((with_reducible refine gate_callee (f := 8) rfl ?_); refine goesL_ (some 80) rfl rfl Tryz.func8 (by kernel_rfl) rfl #[.string (((x14_22 ++ x9_2) ++ (⟨#[46]⟩ : ByteArray)) ++ t310)] rfl (by (try simp only [List.map_toArray, List.map_cons, List.map_nil]); first | done | rfl | (simp only [List.length_drop, List.length_take]; rfl)) ?_; (with_reducible refine (float11_Of.calls _ _ _ _ _ _ _ _ ?side1 A34.out).mono ?_); (case side1 => exact Go.Proofs.YtkijneohhilboaaGreatDoor.PKT.Tabs_below HG.out bl); rintro e w95 ⟨rfl, hb⟩; refine ⟨_, rfl, ?_⟩; have n0_ := Aside0.mk (blk_below (g := gb309) (o := .cells #[.int .i64 t304, .bool t305, .string t306, .string t307] 26 (0, 0)) bk hb); have n1_ := Aside0.mk (below_step bl hb); clear BK309; clear HB; have BK309 := n0_; have HB := n1_; clear n0_ n1_; (try clear hb); (try clear hb2); (try clear hk); (try clear hi)) | ((with_reducible refine gate_dst (N := 15) rfl ?_); (try (refine gate_guard (by rfl) ?_; dsimp only)); refine box_event ?hg (N := 15) ?hd (cs := #[.int .i64 0, .bool false, .string (⟨#[]⟩ : ByteArray), .string (⟨#[]⟩ : ByteArray)]) (t := 26) ?hr ?_; (case hd => rfl); (case hg => rfl); (case hr => first | (go_simp; done) | (go_simp; rfl)); intro gb316 hg w96 hbox hb; have n0_ := Aside0.mk (blk_below (g := gb309) (o := .cells #[.int .i64 t304, .bool t305, .string t306, .string t307] 26 (0, 0)) bk hb); have n1_ := Aside0.mk (below_step bl hb); have n2_ := Aside0.mk (hbox); have n3_ := Aside0.mk ((by rw [hg]; exact (below_size bl) : w.heap.size ≤ gb316)); have n4_ := Aside0.mk ((by rw [hg]; exact (below_size bl) : w.heap.size ≤ gb316)); have n5_ := Aside0.mk ((by rw [hg]; exact Nat.ne_of_lt (blk_lt (g := gb309) (o := .cells #[.int .i64 t304, .bool t305, .string t306, .string t307] 26 (0, 0)) bk) : gb309 ≠ gb316)); have n6_ := Aside0.mk ((by rw [hg]; exact Nat.ne_of_gt (blk_lt (g := gb309) (o := .cells #[.int .i64 t304, .bool t305, .string t306, .string t307] 26 (0, 0)) bk) : gb316 ≠ gb309)); clear BK309; clear HB; have BK309 := n0_; have HB := n1_; have BK316 := n2_; have GW316 := n3_; have GE316 := n4_; have NB309_316 := n5_; have NB316_309 := n6_; clear n0_ n1_ n2_ n3_ n4_ n5_ n6_; clear hb hbox hg; have hnb97 := NB316_309.out; have hnc97 := NB309_316.out; have hcz98_0 : w96.cell? ⟨gb316, 0, none⟩ = some (.int .i64 0) := (blk_cell BK316.out 0).trans rfl; have hcz98_1 : w96.cell? ⟨gb316, 1, none⟩ = some (.bool false) := (blk_cell BK316.out 1).trans rfl; have hcz98_2 : w96.cell? ⟨gb316, 2, none⟩ = some (.string (⟨#[]⟩ : ByteArray)) := (blk_cell BK316.out 2).trans rfl; have hcz98_3 : w96.cell? ⟨gb316, 3, none⟩ = some (.string (⟨#[]⟩ : ByteArray)) := (blk_cell BK316.out 3).trans rfl; have hfz98_0 := blk_frozen BK316.out 0; have hfz98_1 := blk_frozen BK316.out 1; have hfz98_2 := blk_frozen BK316.out 2; have hfz98_3 := blk_frozen BK316.out 3; have hcz99_0 : w96.cell? ⟨gb309, 0, none⟩ = some (.int .i64 t304) := (blk_cell BK309.out 0).trans rfl; have hcz99_1 : w96.cell? ⟨gb309, 1, none⟩ = some (.bool t305) := (blk_cell BK309.out 1).trans rfl; have hcz99_2 : w96.cell? ⟨gb309, 2, none⟩ = some (.string t306) := (blk_cell BK309.out 2).trans rfl; have hcz99_3 : w96.cell? ⟨gb309, 3, none⟩ = some (.string t307) := (blk_cell BK309.out 3).trans rfl; have hfz99_0 := blk_frozen BK309.out 0; have hfz99_1 := blk_frozen BK309.out 1; have hfz99_2 := blk_frozen BK309.out 2; have hfz99_3 := blk_frozen BK309.out 3))
               go_ret
               exact ⟨by first | rfl | (simp [errW_none, errW_some] <;> rfl) | (simp [*, errW_none, errW_some] <;> rfl), bl⟩
            ·rw [if_neg c33] at H
             exact absurd H (by simp)
           ·rw [if_neg c31] at H
            exact absurd H (by simp)
          ·rw [if_neg c30] at H
           exact absurd H (by simp)
 ·replace c6 := Bool.eq_false_iff.mpr c6
  subst c6
  have H1 : (some false) = some r := by rw [if_neg (show ¬ (false = true) by decide)] at H; exact H
  clear H
  have H := H1
  clear H1
  obtain rfl := Option.some.inj H
  go_enter Tryz.func5, Tryz.ntmps5
  go_wp2_with (first | ((with_reducible refine gate_callee (f := 7) rfl ?_); refine goesL_ (some 17) rfl rfl Tryz.func7 (by kernel_rfl) rfl #[] rfl (by (try simp only [List.map_toArray, List.map_cons, List.map_nil]); first | done | rfl | (simp only [List.length_drop, List.length_take]; rfl)) ?_; (with_reducible refine (targumlaw7_known.calls k  false _ ?side1 A5.out).mono ?_); (case side1 => exact Go.Proofs.YtkijneohhilboaaGreatDoor.PKT.Tabs_below HG.out bl); rintro e w105 ⟨rfl, hb⟩; refine ⟨_, rfl, ?_⟩; have n0_ := Aside0.mk (below_step bl hb); clear HB; have HB := n0_; clear n0_; (try clear hb); (try clear hb2); (try clear hk); (try clear hi)))
  go_ret
  exact ⟨by first | rfl | (simp [errW_none, errW_some] <;> rfl) | (simp [*, errW_none, errW_some] <;> rfl), bl⟩

/-- THE ONE PURE STATEMENT of targumlaw7_Float11Sixty: yours. -/
def targumlaw7_Float11Sixty.Pure : Prop := ∀ (a0 : Int) (l1 : List Int) (a2 : ByteArray) (a3 : Bool), (Lit.int .u16 a0).wf = true → l1.length ≤ maxLen → l1.length * 1 ≤ 140737488351232 → (∀ x ∈ l1, (Lit.int .u8 x).wf = true) → a2.size ≤ 140737488351232 → ∃ k, targumlaw7_Float11Sixty.f k a0 l1 a2 a3 = some true
theorem targumlaw7_Float11Sixty.walk (P : targumlaw7_Float11Sixty.Pure) (a0 : Int) (a1 : Option Addr) (len1 cap1 : Nat) (z1 : List Int) (a2 : ByteArray) (a3 : Bool) (w : World) (w0 : (Lit.int .u16 a0).wf = true) (w1 : (a1 = none ∧ len1 = 0 ∧ cap1 = 0 ∧ z1 = []) ∨ ∃ x, a1 = some x ∧ len1 ≤ cap1 ∧ cap1 ≤ maxLen ∧ z1.length = cap1 ∧ (∀ i, i < z1.length → w.cell? (x.add i) = some (.int .u8 (z1.getD i 0))) ∧ ∀ n ∈ z1, (Lit.int .u8 n).wf = true) (y1 : len1 * 1 ≤ 140737488351232) (w2 : a2.size ≤ 140737488351232) (hG : Go.Proofs.YtkijneohhilboaaGreatDoor.PKT.Tabs w) :
  Calls Tryz.prog 5 #[.int .u16 a0, .slice a1 len1 cap1, .string a2, .bool a3] w fun e w' => e = .returned (.bool true) ∧ Below w.heap.size w w' := by
 obtain ⟨l1, rfl, hr1, hm1, hw1, hc1⟩ := ReadsInt.ofRowC w1
 obtain ⟨k, h⟩ := P a0 l1 a2 a3 w0 hm1 y1 hw1 w2
 refine (targumlaw7_Float11Sixty.calls k a0 _ _ l1 a2 a3 true w (Kd.C_of_reads (d := (0 : Int)) (h1 := fun _ => rfl) hr1) hc1 hG h).mono ?_
 rintro e w' ⟨rfl, hd⟩
 exact ⟨rfl, hd⟩

end Go.Proofs.YtkijneohhilboaaGreatDoor.PK
