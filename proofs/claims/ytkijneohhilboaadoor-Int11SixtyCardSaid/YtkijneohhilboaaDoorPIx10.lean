/- Written by this session's own program (xprint, made over the kit's print): Lean functions with the same answers as the Go functions, and the proofs of that. Not trusted: Lean checks it. -/
import Derived.Test.YtkijneohhilboaaDoorPIx0
import Derived.Test.YtkijneohhilboaaDoorPIx1
import Derived.Test.YtkijneohhilboaaDoorPIx3
import Derived.Test.YtkijneohhilboaaDoorPIx7
import Derived.Test.YtkijneohhilboaaDoorPIx8
import Derived.Test.YtkijneohhilboaaDoorXW
namespace Go.Proofs.YtkijneohhilboaaDoor.PI
open Go.Proofs.YtkijneohhilboaaDoor.XW Go.RowKit Go.Proofs.YtkijneohhilboaaDoorW.PrintWords Go.Proofs.YtkijneohhilboaaDoorW.PrintLast Go.Proofs.YtkijneohhilboaaDoorW.PrintMore
attribute [local go_sem] max2_int min2_int max_two min_two max_three min_three max_four min_four   -- for this text's walks alone
set_option linter.unusedVariables false
set_option linter.unusedSimpArgs false

/-! ### targumlaw6_Int11Sixty: function 6 -/
mutual
def targumlaw6_Int11Sixty.j0 : Nat → Int → List Int → Bool → Int → Bool → Option (Bool)
 | 0, _, _, _, _, _ => none
 | k + 1, x0, x1, x2, x3, x32 => if x32 = true then (some true) else ((targumref4_Text.f k (wrap64 (x0))).bind fun t228 => (targumlaw6_Int11Sixty.l0 k x1 x2 x3 t228 (wrap64 (x0)) t228 0))
def targumlaw6_Int11Sixty.l0 : Nat → List Int → Bool → Int → ByteArray → Int → ByteArray → Int → Option (Bool)
 | 0, _, _, _, _, _, _, _ => none
 | k + 1, x1, x2, x3, x9, x10, x11, x12 => if x12 < (x1.length : Int) then (if 0 ≤ x12 then ((targumref4_Text.f k (wrap64 (Int.tmod (rd x1 x12) 60))).bind fun t230 => (if (wrap64 (Int.tmod (rd x1 x12) 60)) < 10 then (targumlaw6_Int11Sixty.j2 k x1 x2 x3 x9 x10 x11 x12 (wrap64 (Int.tmod (rd x1 x12) 60)) t230 (decide ((rd x1 x12) > 127))) else (targumlaw6_Int11Sixty.j2 k x1 x2 x3 x9 x10 x11 x12 (wrap64 (Int.tmod (rd x1 x12) 60)) t230 false))) else (none)) else ((targumref4_Text.f k x10).bind fun t236 => (if x2 = true then (if 1 + t236.size ≤ 9223372036854775807 then (targumlaw6_Int11Sixty.j3 k x9 x11 ((⟨#[45]⟩ : ByteArray) ++ t236) (⟨#[45]⟩ : ByteArray)) else (none)) else (targumlaw6_Int11Sixty.j3 k x9 x11 t236 (⟨#[]⟩ : ByteArray))))
def targumlaw6_Int11Sixty.j2 : Nat → List Int → Bool → Int → ByteArray → Int → ByteArray → Int → Int → ByteArray → Bool → Option (Bool)
 | 0, _, _, _, _, _, _, _, _, _, _ => none
 | k + 1, x1, x2, x3, x9, x10, x11, x12, x13, x14, x61 => if x61 = true then (if 1 + x14.size ≤ 9223372036854775807 then (if x9.size + 1 ≤ 9223372036854775807 then (if (x9 ++ (⟨#[58]⟩ : ByteArray)).size + ((⟨#[48]⟩ : ByteArray) ++ x14).size ≤ 9223372036854775807 then (if (x1.length : Int) = 0 then (none) else (if x12 = (Int.tmod (wrap64 (x3)) (x1.length : Int)) then (if x11.size + 1 ≤ 9223372036854775807 then ((targumref4_Text.f k (wrap64 (60 + (Int.tmod (wrap64 (x3)) 40)))).bind fun t232 => (if (x11 ++ (⟨#[58]⟩ : ByteArray)).size + t232.size ≤ 9223372036854775807 then (targumlaw6_Int11Sixty.l0 k x1 x2 x3 ((x9 ++ (⟨#[58]⟩ : ByteArray)) ++ ((⟨#[48]⟩ : ByteArray) ++ x14)) (wrap64 ((wrap64 (60 * x10)) + x13)) ((x11 ++ (⟨#[58]⟩ : ByteArray)) ++ t232) (wrap64 (x12 + 1))) else (none))) else (none)) else (if x11.size + 1 ≤ 9223372036854775807 then ((targumref4_Text.f k x13).bind fun t233 => (if (x11 ++ (⟨#[58]⟩ : ByteArray)).size + t233.size ≤ 9223372036854775807 then (targumlaw6_Int11Sixty.l0 k x1 x2 x3 ((x9 ++ (⟨#[58]⟩ : ByteArray)) ++ ((⟨#[48]⟩ : ByteArray) ++ x14)) (wrap64 ((wrap64 (60 * x10)) + x13)) ((x11 ++ (⟨#[58]⟩ : ByteArray)) ++ t233) (wrap64 (x12 + 1))) else (none))) else (none)))) else (none)) else (none)) else (none)) else (if x9.size + 1 ≤ 9223372036854775807 then (if (x9 ++ (⟨#[58]⟩ : ByteArray)).size + x14.size ≤ 9223372036854775807 then (if (x1.length : Int) = 0 then (none) else (if x12 = (Int.tmod (wrap64 (x3)) (x1.length : Int)) then (if x11.size + 1 ≤ 9223372036854775807 then ((targumref4_Text.f k (wrap64 (60 + (Int.tmod (wrap64 (x3)) 40)))).bind fun t234 => (if (x11 ++ (⟨#[58]⟩ : ByteArray)).size + t234.size ≤ 9223372036854775807 then (targumlaw6_Int11Sixty.l0 k x1 x2 x3 ((x9 ++ (⟨#[58]⟩ : ByteArray)) ++ x14) (wrap64 ((wrap64 (60 * x10)) + x13)) ((x11 ++ (⟨#[58]⟩ : ByteArray)) ++ t234) (wrap64 (x12 + 1))) else (none))) else (none)) else (if x11.size + 1 ≤ 9223372036854775807 then ((targumref4_Text.f k x13).bind fun t235 => (if (x11 ++ (⟨#[58]⟩ : ByteArray)).size + t235.size ≤ 9223372036854775807 then (targumlaw6_Int11Sixty.l0 k x1 x2 x3 ((x9 ++ (⟨#[58]⟩ : ByteArray)) ++ x14) (wrap64 ((wrap64 (60 * x10)) + x13)) ((x11 ++ (⟨#[58]⟩ : ByteArray)) ++ t235) (wrap64 (x12 + 1))) else (none))) else (none)))) else (none)) else (none))
def targumlaw6_Int11Sixty.j3 : Nat → ByteArray → ByteArray → ByteArray → ByteArray → Option (Bool)
 | 0, _, _, _, _ => none
 | k + 1, x9, x11, x15, x16 => if x16.size + x9.size ≤ 9223372036854775807 then ((int11_Of.f k (x16 ++ x9)).bind fun bt237 => (if bt237.2 = true then (if bt237.1.toList = x15.toList then ((int11_Form.f x9).bind fun t239 => (if t239 = 6 then ((int11_Form.f x11).bind fun t240 => (if t240 = 0 then (if x9.size + 1 ≤ 9223372036854775807 then ((int11_Is.f (x9 ++ (⟨#[58]⟩ : ByteArray))).bind fun t241 => (if t241 = true then (some false) else (if 1 + x9.size ≤ 9223372036854775807 then ((int11_Is.f ((⟨#[58]⟩ : ByteArray) ++ x9)).bind fun t242 => (if t242 = true then (some false) else (if x9.size + 4 ≤ 9223372036854775807 then ((int11_Is.f (x9 ++ (⟨#[58, 48, 48, 48]⟩ : ByteArray))).bind fun t243 => (some (!t243))) else (none)))) else (none)))) else (none)) else (some false))) else (some false))) else (some false)) else (some false))) else (none)
end
def targumlaw6_Int11Sixty.f (k : Nat) (a0 : Int) (l1 : List Int) (a2 : Bool) (a3 : Int) : Option (Bool) := (targumlaw6_known.f k).bind fun t227 => (if t227 = true then (if a0 = 0 then (targumlaw6_Int11Sixty.j0 k a0 l1 a2 a3 true) else (if (l1.length : Int) < 1 then (targumlaw6_Int11Sixty.j0 k a0 l1 a2 a3 true) else (targumlaw6_Int11Sixty.j0 k a0 l1 a2 a3 (decide ((l1.length : Int) > 6))))) else (some false))
theorem targumlaw6_Int11Sixty.mono_l : ∀ k, (∀ y0 y1 y2 y3 y4, LeO (targumlaw6_Int11Sixty.j0 k y0 y1 y2 y3 y4) (targumlaw6_Int11Sixty.j0 (k + 1) y0 y1 y2 y3 y4)) ∧ (∀ y0 y1 y2 y3 y4 y5 y6, LeO (targumlaw6_Int11Sixty.l0 k y0 y1 y2 y3 y4 y5 y6) (targumlaw6_Int11Sixty.l0 (k + 1) y0 y1 y2 y3 y4 y5 y6)) ∧ (∀ y0 y1 y2 y3 y4 y5 y6 y7 y8 y9, LeO (targumlaw6_Int11Sixty.j2 k y0 y1 y2 y3 y4 y5 y6 y7 y8 y9) (targumlaw6_Int11Sixty.j2 (k + 1) y0 y1 y2 y3 y4 y5 y6 y7 y8 y9)) ∧ (∀ y0 y1 y2 y3, LeO (targumlaw6_Int11Sixty.j3 k y0 y1 y2 y3) (targumlaw6_Int11Sixty.j3 (k + 1) y0 y1 y2 y3))
 | 0 => ⟨fun _ _ _ _ _ r h => by simp [targumlaw6_Int11Sixty.j0] at h, fun _ _ _ _ _ _ _ r h => by simp [targumlaw6_Int11Sixty.l0] at h, fun _ _ _ _ _ _ _ _ _ _ r h => by simp [targumlaw6_Int11Sixty.j2] at h, fun _ _ _ _ r h => by simp [targumlaw6_Int11Sixty.j3] at h⟩
 | k + 1 => by
  obtain ⟨ih0, ih1, ih2, ih3⟩ := targumlaw6_Int11Sixty.mono_l k
  refine ⟨?_, ?_, ?_, ?_⟩
  ·intro y0 y1 y2 y3 y4
   unfold targumlaw6_Int11Sixty.j0
   repeat' first
   | (with_reducible exact ih0 _ _ _ _ _)
   | (with_reducible exact ih1 _ _ _ _ _ _ _)
   | (with_reducible exact ih2 _ _ _ _ _ _ _ _ _ _)
   | (with_reducible exact ih3 _ _ _ _)
   | (with_reducible exact int11_Of.mono _ _)
   | (with_reducible exact targumlaw6_known.mono _)
   | (with_reducible exact targumref4_Text.mono _ _)
   | (with_reducible exact LeO.refl _)
   | (with_reducible exact LeO.none _)
   | (with_reducible refine LeO.ite ?_ ?_)
   | (with_reducible refine LeO.bind ?_ (fun _ => ?_))
   | exact ih0 _ _ _ _ _
   | exact ih1 _ _ _ _ _ _ _
   | exact ih2 _ _ _ _ _ _ _ _ _ _
   | exact ih3 _ _ _ _
   | exact int11_Of.mono _ _
   | exact targumlaw6_known.mono _
   | exact targumref4_Text.mono _ _
   | exact LeO.none _
   | refine LeO.ite ?_ ?_
   | refine LeO.bind ?_ (fun _ => ?_)
  ·intro y0 y1 y2 y3 y4 y5 y6
   unfold targumlaw6_Int11Sixty.l0
   repeat' first
   | (with_reducible exact ih0 _ _ _ _ _)
   | (with_reducible exact ih1 _ _ _ _ _ _ _)
   | (with_reducible exact ih2 _ _ _ _ _ _ _ _ _ _)
   | (with_reducible exact ih3 _ _ _ _)
   | (with_reducible exact int11_Of.mono _ _)
   | (with_reducible exact targumlaw6_known.mono _)
   | (with_reducible exact targumref4_Text.mono _ _)
   | (with_reducible exact LeO.refl _)
   | (with_reducible exact LeO.none _)
   | (with_reducible refine LeO.ite ?_ ?_)
   | (with_reducible refine LeO.bind ?_ (fun _ => ?_))
   | exact ih0 _ _ _ _ _
   | exact ih1 _ _ _ _ _ _ _
   | exact ih2 _ _ _ _ _ _ _ _ _ _
   | exact ih3 _ _ _ _
   | exact int11_Of.mono _ _
   | exact targumlaw6_known.mono _
   | exact targumref4_Text.mono _ _
   | exact LeO.none _
   | refine LeO.ite ?_ ?_
   | refine LeO.bind ?_ (fun _ => ?_)
  ·intro y0 y1 y2 y3 y4 y5 y6 y7 y8 y9
   unfold targumlaw6_Int11Sixty.j2
   repeat' first
   | (with_reducible exact ih0 _ _ _ _ _)
   | (with_reducible exact ih1 _ _ _ _ _ _ _)
   | (with_reducible exact ih2 _ _ _ _ _ _ _ _ _ _)
   | (with_reducible exact ih3 _ _ _ _)
   | (with_reducible exact int11_Of.mono _ _)
   | (with_reducible exact targumlaw6_known.mono _)
   | (with_reducible exact targumref4_Text.mono _ _)
   | (with_reducible exact LeO.refl _)
   | (with_reducible exact LeO.none _)
   | (with_reducible refine LeO.ite ?_ ?_)
   | (with_reducible refine LeO.bind ?_ (fun _ => ?_))
   | exact ih0 _ _ _ _ _
   | exact ih1 _ _ _ _ _ _ _
   | exact ih2 _ _ _ _ _ _ _ _ _ _
   | exact ih3 _ _ _ _
   | exact int11_Of.mono _ _
   | exact targumlaw6_known.mono _
   | exact targumref4_Text.mono _ _
   | exact LeO.none _
   | refine LeO.ite ?_ ?_
   | refine LeO.bind ?_ (fun _ => ?_)
  ·intro y0 y1 y2 y3
   unfold targumlaw6_Int11Sixty.j3
   repeat' first
   | (with_reducible exact ih0 _ _ _ _ _)
   | (with_reducible exact ih1 _ _ _ _ _ _ _)
   | (with_reducible exact ih2 _ _ _ _ _ _ _ _ _ _)
   | (with_reducible exact ih3 _ _ _ _)
   | (with_reducible exact int11_Of.mono _ _)
   | (with_reducible exact targumlaw6_known.mono _)
   | (with_reducible exact targumref4_Text.mono _ _)
   | (with_reducible exact LeO.refl _)
   | (with_reducible exact LeO.none _)
   | (with_reducible refine LeO.ite ?_ ?_)
   | (with_reducible refine LeO.bind ?_ (fun _ => ?_))
   | exact ih0 _ _ _ _ _
   | exact ih1 _ _ _ _ _ _ _
   | exact ih2 _ _ _ _ _ _ _ _ _ _
   | exact ih3 _ _ _ _
   | exact int11_Of.mono _ _
   | exact targumlaw6_known.mono _
   | exact targumref4_Text.mono _ _
   | exact LeO.none _
   | refine LeO.ite ?_ ?_
   | refine LeO.bind ?_ (fun _ => ?_)
theorem targumlaw6_Int11Sixty.mono : ∀ a0 a1 a2 a3 k, LeO (targumlaw6_Int11Sixty.f k a0 a1 a2 a3) (targumlaw6_Int11Sixty.f (k + 1) a0 a1 a2 a3) := by
 intro a0 a1 a2 a3 k
 obtain ⟨ih0, ih1, ih2, ih3⟩ := targumlaw6_Int11Sixty.mono_l k
 unfold targumlaw6_Int11Sixty.f
 repeat' first
   | (with_reducible exact ih0 _ _ _ _ _)
   | (with_reducible exact ih1 _ _ _ _ _ _ _)
   | (with_reducible exact ih2 _ _ _ _ _ _ _ _ _ _)
   | (with_reducible exact ih3 _ _ _ _)
   | (with_reducible exact int11_Of.mono _ _)
   | (with_reducible exact targumlaw6_known.mono _)
   | (with_reducible exact targumref4_Text.mono _ _)
   | (with_reducible exact LeO.refl _)
   | (with_reducible exact LeO.none _)
   | (with_reducible refine LeO.ite ?_ ?_)
   | (with_reducible refine LeO.bind ?_ (fun _ => ?_))
   | exact ih0 _ _ _ _ _
   | exact ih1 _ _ _ _ _ _ _
   | exact ih2 _ _ _ _ _ _ _ _ _ _
   | exact ih3 _ _ _ _
   | exact int11_Of.mono _ _
   | exact targumlaw6_known.mono _
   | exact targumref4_Text.mono _ _
   | exact LeO.none _
   | refine LeO.ite ?_ ?_
   | refine LeO.bind ?_ (fun _ => ?_)
set_option maxHeartbeats 40000000 in
set_option maxRecDepth 100000 in
theorem targumlaw6_Int11Sixty.calls (k : Nat) (a0 : Int) (A1 : Option Addr) (c1 : Nat) (l1 : List Int) (a2 : Bool) (a3 : Int) (r : Bool) (w : World) (hr1 : Kd.C (Kd.int .u8) w A1 l1.length l1) (hc1 : l1.length ≤ c1) (hG : Go.Proofs.YtkijneohhilboaaDoor.PIT.Tabs w) (h : targumlaw6_Int11Sixty.f k a0 l1 a2 a3 = some r) :
  Calls Tryd.prog 6 #[.int .u16 a0, .slice A1 l1.length c1, .bool a2, .int .u8 a3] w fun e w' => e = .returned (.bool r) ∧ Below w.heap.size w w' := by
 have HG := Aside0.mk hG
 clear hG
 have HR1 := Aside0.mk hr1
 have HC1 := Aside0.mk hc1
 clear hr1 hc1
 have HB := Aside0.mk (Below.refl w.heap.size w)
 have H : ((targumlaw6_known.f k).bind fun t227 => (if t227 = true then (if a0 = 0 then (targumlaw6_Int11Sixty.j0 k a0 l1 a2 a3 true) else (if (l1.length : Int) < 1 then (targumlaw6_Int11Sixty.j0 k a0 l1 a2 a3 true) else (targumlaw6_Int11Sixty.j0 k a0 l1 a2 a3 (decide ((l1.length : Int) > 6))))) else (some false))) = some r := h
 clear h
 replace H := Option.bind_eq_some_iff.mp H
 obtain ⟨t227, A50, H⟩ := H
 replace H : (if t227 = true then (if a0 = 0 then (targumlaw6_Int11Sixty.j0 k a0 l1 a2 a3 true) else (if (l1.length : Int) < 1 then (targumlaw6_Int11Sixty.j0 k a0 l1 a2 a3 true) else (targumlaw6_Int11Sixty.j0 k a0 l1 a2 a3 (decide ((l1.length : Int) > 6))))) else (some false)) = some r := H
 have A5 := Aside0.mk A50
 clear A50
 by_cases c6 : t227 = true
 ·subst c6
  have H1 : (if a0 = 0 then (targumlaw6_Int11Sixty.j0 k a0 l1 a2 a3 true) else (if (l1.length : Int) < 1 then (targumlaw6_Int11Sixty.j0 k a0 l1 a2 a3 true) else (targumlaw6_Int11Sixty.j0 k a0 l1 a2 a3 (decide ((l1.length : Int) > 6))))) = some r := by rw [if_pos rfl] at H; exact H
  clear H
  have H := H1
  clear H1
  have HC7 := Aside0.mk H
  clear H
  go_enter Tryd.func6, Tryd.ntmps6
  go_upto_region 3 with (first | ((with_reducible refine gate_callee (f := 10) rfl ?_); refine goesL_ (some 19) rfl rfl Tryd.func10 (by kernel_rfl) rfl #[] rfl (by (try simp only [List.map_toArray, List.map_cons, List.map_nil]); first | done | rfl | (simp only [List.length_drop, List.length_take]; rfl)) ?_; (with_reducible refine (targumlaw6_known.calls k  true _ ?side1 A5.out).mono ?_); (case side1 => exact Go.Proofs.YtkijneohhilboaaDoor.PIT.Tabs_below HG.out bl); rintro e w8 ⟨rfl, hb⟩; refine ⟨_, rfl, ?_⟩; have n0_ := Aside0.mk (below_step bl hb); clear HB; have HB := n0_; clear n0_; (try clear hb); (try clear hb2); (try clear hk); (try clear hi)))
  (try simp only [Act.put, List.setIfInBounds_toArray, List.set_cons_zero, List.set_cons_succ])
  go_cut [32] (fun v32 wc => ∃ (kq : Nat) (x32_6 : Bool), v32 = .bool x32_6 ∧ Aside0 (targumlaw6_Int11Sixty.j0 kq a0 l1 a2 a3 x32_6 = some r) ∧ Aside0 (kq ≤ k) ∧ Aside0 (Below w.heap.size w wc))
  case first =>
   have H := HC7.out
   clear HC7
   by_cases c9 : a0 = 0
   ·rw [if_pos c9] at H
    have c9b0 : (a0 == 0) = true := beq_iff_eq.mpr c9
    have c9b1 : (a0 != 0) = false := bne_eq_false_iff_eq.mpr c9
    clear c9
    (first | rw [c9b0] | (simp only [i64_w, i32_w]; rw [c9b0]) | skip)
    have H' := Aside0.mk H
    clear H
    go_wp2
    go_meet
    case rel => exact ⟨_, (true), (by first | rfl | (simp; done) | (simp [*]; done) | (simp [wrap64]; done)), H', ⟨by first | omega | exact Nat.le_refl _⟩, ⟨bl⟩⟩
   ·rw [if_neg c9] at H
    have c9b0 : (a0 == 0) = false := beq_eq_false_iff_ne.mpr c9
    have c9b1 : (a0 != 0) = true := bne_iff_ne.mpr c9
    (first | rw [c9b0] | (simp only [i64_w, i32_w]; rw [c9b0]) | skip)
    by_cases c10 : (l1.length : Int) < 1
    ·rw [if_pos c10] at H
     have c10b0 : decide ((l1.length : Int) < 1) = true := decide_eq_true c10
     have c10b1 : decide (l1.length < 1) = true := decide_eq_true (by omega)
     clear c10
     have H' := Aside0.mk H
     clear H
     go_wp2
     go_meet
     case rel => exact ⟨_, (true), (by first | rfl | (simp; done) | (simp [*]; done) | (simp [wrap64]; done)), H', ⟨by first | omega | exact Nat.le_refl _⟩, ⟨bl⟩⟩
    ·rw [if_neg c10] at H
     have c10b0 : decide ((l1.length : Int) < 1) = false := decide_eq_false c10
     have c10b1 : decide (l1.length < 1) = false := decide_eq_false (by omega)
     clear c10
     have H' := Aside0.mk H
     clear H
     go_wp2
     go_meet
     case rel => exact ⟨_, (decide ((l1.length : Int) > 6)), (by first | rfl | (simp; done) | (simp [*]; done) | (simp [wrap64]; done)), H', ⟨by first | omega | exact Nat.le_refl _⟩, ⟨bl⟩⟩
  case rest =>
   clear HC7
   try clear c1; try clear p2; try clear c6; try clear c9; try clear c9b0; try clear c9b1; try clear c10; try clear c10b0; try clear c10b1
   obtain ⟨kq, x32_6, rfl, HA, HJ6, HB⟩ := hcut
   cases kq with
   | zero => exact absurd HA.out (by simp [targumlaw6_Int11Sixty.j0])
   | succ kj6 =>
    have H := HA.out
    clear HA
    simp only [targumlaw6_Int11Sixty.j0] at H
    by_cases c11 : x32_6 = true
    ·subst c11
     have H1 : (some true) = some r := by rw [if_pos rfl] at H; exact H
     clear H
     have H := H1
     clear H1
     obtain rfl := Option.some.inj H
     go_wp2
     go_ret
     exact ⟨by first | rfl | (simp [errW_none, errW_some] <;> rfl) | (simp [*, errW_none, errW_some] <;> rfl), bl⟩
    ·replace c11 := Bool.eq_false_iff.mpr c11
     subst c11
     have H1 : ((targumref4_Text.f kj6 (wrap64 (a0))).bind fun t228 => (targumlaw6_Int11Sixty.l0 kj6 l1 a2 a3 t228 (wrap64 (a0)) t228 0)) = some r := by rw [if_neg (show ¬ (false = true) by decide)] at H; exact H
     clear H
     have H := H1
     clear H1
     replace H := Option.bind_eq_some_iff.mp H
     obtain ⟨t228, A120, H⟩ := H
     replace H : (targumlaw6_Int11Sixty.l0 kj6 l1 a2 a3 t228 (wrap64 (a0)) t228 0) = some r := H
     have A12 := Aside0.mk A120
     clear A120
     have H' := Aside0.mk H
     clear H
     go_wp2_with (first | ((with_reducible refine gate_callee (f := 12) rfl ?_); refine goesL_ (some 35) rfl rfl Tryd.func12 (by kernel_rfl) rfl #[.int .i64 (wrap64 (a0))] rfl (by (try simp only [List.map_toArray, List.map_cons, List.map_nil]); first | done | rfl | (simp only [List.length_drop, List.length_take]; rfl)) ?_; (with_reducible refine (targumref4_Text.calls kj6 (wrap64 (a0)) t228 _ A12.out).mono ?_); rintro e w13 ⟨rfl, hb⟩; refine ⟨_, rfl, ?_⟩; have n0_ := Aside0.mk (below_step bl hb); clear HB; have HB := n0_; clear n0_; (try clear hb); (try clear hb2); (try clear hk); (try clear hi)))
     go_loopg [9, 10, 11, 12] kj6 (fun kq v9 v10 v11 v12 w' => ∃ (x9_2 : ByteArray) (x10_2 : Int) (x11_2 : ByteArray) (x12_2 : Int), v9 = .string x9_2 ∧ v10 = .int .i64 x10_2 ∧ v11 = .string x11_2 ∧ v12 = .int .i64 x12_2 ∧ Aside0 (targumlaw6_Int11Sixty.l0 kq l1 a2 a3 x9_2 x10_2 x11_2 x12_2 = some r) ∧ Aside0 (kq ≤ kj6) ∧ Aside0 (Below w.heap.size w w'))
     case atStart => exact ⟨(t228), (wrap64 (a0)), (t228), (0), (by first | rfl | (simp; done) | (simp [*]; done) | (simp [wrap64]; done)), (by first | rfl | (simp; done) | (simp [*]; done) | (simp [wrap64]; done)), (by first | rfl | (simp; done) | (simp [*]; done) | (simp [wrap64]; done)), (by first | rfl | (simp; done) | (simp [*]; done) | (simp [wrap64]; done)), H', ⟨Nat.le_refl _⟩, ⟨bl⟩⟩
     case round =>
      clear H'
      try clear c1; try clear p2; try clear c6; try clear p6; try clear c9; try clear c9b0; try clear c9b1; try clear c10; try clear c10b0; try clear c10b1; try clear c11; try clear c12; try clear p2
      obtain ⟨x9_2, x10_2, x11_2, x12_2, rfl, rfl, rfl, rfl, HA, HK2, HB⟩ := hrel
      cases gk with
      | zero => exact absurd HA.out (by simp [targumlaw6_Int11Sixty.l0])
      | succ k2 =>
       have H := HA.out
       clear HA
       simp only [targumlaw6_Int11Sixty.l0] at H
       by_cases c14 : x12_2 < (l1.length : Int)
       ·rw [if_pos c14] at H
        have c14b0 : decide (x12_2 < (l1.length : Int)) = true := decide_eq_true c14
        clear c14
        by_cases c15 : 0 ≤ x12_2
        ·rw [if_pos c15] at H
         have c15b0 : decide (0 ≤ x12_2) = true := decide_eq_true c15
         clear c15
         replace H := Option.bind_eq_some_iff.mp H
         obtain ⟨t230, A160, H⟩ := H
         replace H : (if (wrap64 (Int.tmod (rd l1 x12_2) 60)) < 10 then (targumlaw6_Int11Sixty.j2 k2 l1 a2 a3 x9_2 x10_2 x11_2 x12_2 (wrap64 (Int.tmod (rd l1 x12_2) 60)) t230 (decide ((rd l1 x12_2) > 127))) else (targumlaw6_Int11Sixty.j2 k2 l1 a2 a3 x9_2 x10_2 x11_2 x12_2 (wrap64 (Int.tmod (rd l1 x12_2) 60)) t230 false)) = some r := H
         have A16 := Aside0.mk A160
         clear A160
         have HC17 := Aside0.mk H
         clear H
         have p229 : 0 ≤ (x12_2 : Int) := of_decide_eq_true (by first | (with_reducible assumption) | assumption)
         have q229 : x12_2 < (l1.length : Int) := of_decide_eq_true (by first | (with_reducible assumption) | assumption)
         obtain ⟨ad229, e229, hx229_0⟩ := Kd.at_int HR1.out x12_2 p229 q229
         cases e229
         replace hx229_0 := (HB.out.cell (World.block_lt_of_cell? w _ hx229_0)).trans hx229_0
         replace p229 := eq_true p229
         replace q229 := eq_true q229
         go_upto_region 13 with (first | ((with_reducible refine gate_callee (f := 12) rfl ?_); refine goesL_ (some 52) rfl rfl Tryd.func12 (by kernel_rfl) rfl #[.int .i64 (wrap64 (Int.tmod (rd l1 x12_2) 60))] rfl (by (try simp only [List.map_toArray, List.map_cons, List.map_nil]); first | done | rfl | (simp only [List.length_drop, List.length_take]; rfl)) ?_; (with_reducible refine (targumref4_Text.calls k2 (wrap64 (Int.tmod (rd l1 x12_2) 60)) t230 _ A16.out).mono ?_); rintro e w18 ⟨rfl, hb⟩; refine ⟨_, rfl, ?_⟩; have n0_ := Aside0.mk (below_step bl hb); clear HB; have HB := n0_; clear n0_; (try clear hb); (try clear hb2); (try clear hk); (try clear hi)))
         (try simp only [Act.put, List.setIfInBounds_toArray, List.set_cons_zero, List.set_cons_succ])
         go_cut [61] (fun v61 wc => ∃ (kq : Nat) (x61_16 : Bool), v61 = .bool x61_16 ∧ Aside0 (targumlaw6_Int11Sixty.j2 kq l1 a2 a3 x9_2 x10_2 x11_2 x12_2 (wrap64 (Int.tmod (rd l1 x12_2) 60)) t230 x61_16 = some r) ∧ Aside0 (kq ≤ k2) ∧ Aside0 (Below w.heap.size w wc))
         case first =>
          have H := HC17.out
          clear HC17
          by_cases c19 : (wrap64 (Int.tmod (rd l1 x12_2) 60)) < 10
          ·rw [if_pos c19] at H
           have c19b0 : decide ((wrap64 (Int.tmod (rd l1 x12_2) 60)) < 10) = true := decide_eq_true c19
           clear c19
           (first | rw [c19b0] | (simp only [i64_w, i32_w]; rw [c19b0]) | skip)
           have H' := Aside0.mk H
           clear H
           have p231 : 0 ≤ (x12_2 : Int) := of_decide_eq_true (by first | (with_reducible assumption) | assumption)
           have q231 : x12_2 < (l1.length : Int) := of_decide_eq_true (by first | (with_reducible assumption) | assumption)
           obtain ⟨ad231, e231, hx231_0⟩ := Kd.at_int HR1.out x12_2 p231 q231
           obtain rfl : ad229 = ad231 := (by injection e231)
           replace hx231_0 := (HB.out.cell (World.block_lt_of_cell? w _ hx231_0)).trans hx231_0
           replace p231 := eq_true p231
           replace q231 := eq_true q231
           go_wp2
           go_meet
           case rel => exact ⟨_, (decide ((rd l1 x12_2) > 127)), (by first | rfl | (simp; done) | (simp [*]; done) | (simp [wrap64]; done)), H', ⟨by have := HJ6.out; have := HK2.out; first | omega | exact Nat.le_refl _⟩, ⟨bl⟩⟩
          ·rw [if_neg c19] at H
           have c19b0 : decide ((wrap64 (Int.tmod (rd l1 x12_2) 60)) < 10) = false := decide_eq_false c19
           clear c19
           (first | rw [c19b0] | (simp only [i64_w, i32_w]; rw [c19b0]) | skip)
           have H' := Aside0.mk H
           clear H
           go_wp2
           go_meet
           case rel => exact ⟨_, (false), (by first | rfl | (simp; done) | (simp [*]; done) | (simp [wrap64]; done)), H', ⟨by have := HJ6.out; have := HK2.out; first | omega | exact Nat.le_refl _⟩, ⟨bl⟩⟩
         case rest =>
          clear HC17
          try clear c1; try clear p2; try clear q2; try clear hx2; try clear c6; try clear p6; try clear c9; try clear c9b0; try clear c9b1; try clear c10; try clear c10b0; try clear c10b1; try clear c11; try clear c12; try clear c14; try clear c14b0; try clear c15; try clear c15b0; try clear c19; try clear c19b0; try clear hx229_0; try clear hx231_0; try clear p2; try clear p229; try clear p231; try clear p6; try clear q229; try clear q231
          obtain ⟨kq, x61_16, rfl, HA, HJ16, HB⟩ := hcut
          cases kq with
          | zero => exact absurd HA.out (by simp [targumlaw6_Int11Sixty.j2])
          | succ kj16 =>
           have H := HA.out
           clear HA
           simp only [targumlaw6_Int11Sixty.j2] at H
           by_cases c20 : x61_16 = true
           ·subst c20
            have H1 : (if 1 + t230.size ≤ 9223372036854775807 then (if x9_2.size + 1 ≤ 9223372036854775807 then (if (x9_2 ++ (⟨#[58]⟩ : ByteArray)).size + ((⟨#[48]⟩ : ByteArray) ++ t230).size ≤ 9223372036854775807 then (if (l1.length : Int) = 0 then (none) else (if x12_2 = (Int.tmod (wrap64 (a3)) (l1.length : Int)) then (if x11_2.size + 1 ≤ 9223372036854775807 then ((targumref4_Text.f kj16 (wrap64 (60 + (Int.tmod (wrap64 (a3)) 40)))).bind fun t232 => (if (x11_2 ++ (⟨#[58]⟩ : ByteArray)).size + t232.size ≤ 9223372036854775807 then (targumlaw6_Int11Sixty.l0 kj16 l1 a2 a3 ((x9_2 ++ (⟨#[58]⟩ : ByteArray)) ++ ((⟨#[48]⟩ : ByteArray) ++ t230)) (wrap64 ((wrap64 (60 * x10_2)) + (wrap64 (Int.tmod (rd l1 x12_2) 60)))) ((x11_2 ++ (⟨#[58]⟩ : ByteArray)) ++ t232) (wrap64 (x12_2 + 1))) else (none))) else (none)) else (if x11_2.size + 1 ≤ 9223372036854775807 then ((targumref4_Text.f kj16 (wrap64 (Int.tmod (rd l1 x12_2) 60))).bind fun t233 => (if (x11_2 ++ (⟨#[58]⟩ : ByteArray)).size + t233.size ≤ 9223372036854775807 then (targumlaw6_Int11Sixty.l0 kj16 l1 a2 a3 ((x9_2 ++ (⟨#[58]⟩ : ByteArray)) ++ ((⟨#[48]⟩ : ByteArray) ++ t230)) (wrap64 ((wrap64 (60 * x10_2)) + (wrap64 (Int.tmod (rd l1 x12_2) 60)))) ((x11_2 ++ (⟨#[58]⟩ : ByteArray)) ++ t233) (wrap64 (x12_2 + 1))) else (none))) else (none)))) else (none)) else (none)) else (none)) = some r := by rw [if_pos rfl] at H; exact H
            clear H
            have H := H1
            clear H1
            by_cases c21 : 1 + t230.size ≤ 9223372036854775807
            ·rw [if_pos c21] at H
             have c21b0 := eq_true c21
             have c21b1 : decide (1 + t230.size ≤ 9223372036854775807) = true := decide_eq_true c21
             try have c21b2 : (9223372036854775807 < 1 + t230.size) = False := eq_false (Nat.not_lt.2 c21)
             by_cases c22 : x9_2.size + 1 ≤ 9223372036854775807
             ·rw [if_pos c22] at H
              have c22b0 := eq_true c22
              have c22b1 : decide (x9_2.size + 1 ≤ 9223372036854775807) = true := decide_eq_true c22
              try have c22b2 : (9223372036854775807 < x9_2.size + 1) = False := eq_false (Nat.not_lt.2 c22)
              by_cases c23 : (x9_2 ++ (⟨#[58]⟩ : ByteArray)).size + ((⟨#[48]⟩ : ByteArray) ++ t230).size ≤ 9223372036854775807
              ·rw [if_pos c23] at H
               have c23b0 := eq_true c23
               have c23b1 : decide ((x9_2 ++ (⟨#[58]⟩ : ByteArray)).size + ((⟨#[48]⟩ : ByteArray) ++ t230).size ≤ 9223372036854775807) = true := decide_eq_true c23
               try have c23b2 : (9223372036854775807 < (x9_2 ++ (⟨#[58]⟩ : ByteArray)).size + ((⟨#[48]⟩ : ByteArray) ++ t230).size) = False := eq_false (Nat.not_lt.2 c23)
               try have c23b3 : (9223372036854775807 < x9_2.size + 1 + (1 + t230.size)) = False := eq_false (Nat.not_lt.2 (by have z_ := c23; simp only [ByteArray.size_append, ByteArray.size_extract, Nat.min_self] at z_; exact z_))
               by_cases c24 : (l1.length : Int) = 0
               ·rw [if_pos c24] at H
                exact absurd H (by simp)
               ·rw [if_neg c24] at H
                have c24b0 : ((l1.length : Int) == 0) = false := beq_eq_false_iff_ne.mpr c24
                have c24b1 : ((l1.length : Int) != 0) = true := bne_iff_ne.mpr c24
                have c24b2 : ¬ (l1 = []) := fun h_ => c24 (by rw [h_]; rfl)
                by_cases c25 : x12_2 = (Int.tmod (wrap64 (a3)) (l1.length : Int))
                ·rw [if_pos c25] at H
                 have c25b0 : (x12_2 == (Int.tmod (wrap64 (a3)) (l1.length : Int))) = true := beq_iff_eq.mpr c25
                 have c25b1 : (x12_2 != (Int.tmod (wrap64 (a3)) (l1.length : Int))) = false := bne_eq_false_iff_eq.mpr c25
                 clear c25
                 by_cases c26 : x11_2.size + 1 ≤ 9223372036854775807
                 ·rw [if_pos c26] at H
                  have c26b0 := eq_true c26
                  have c26b1 : decide (x11_2.size + 1 ≤ 9223372036854775807) = true := decide_eq_true c26
                  try have c26b2 : (9223372036854775807 < x11_2.size + 1) = False := eq_false (Nat.not_lt.2 c26)
                  replace H := Option.bind_eq_some_iff.mp H
                  obtain ⟨t232, A270, H⟩ := H
                  replace H : (if (x11_2 ++ (⟨#[58]⟩ : ByteArray)).size + t232.size ≤ 9223372036854775807 then (targumlaw6_Int11Sixty.l0 kj16 l1 a2 a3 ((x9_2 ++ (⟨#[58]⟩ : ByteArray)) ++ ((⟨#[48]⟩ : ByteArray) ++ t230)) (wrap64 ((wrap64 (60 * x10_2)) + (wrap64 (Int.tmod (rd l1 x12_2) 60)))) ((x11_2 ++ (⟨#[58]⟩ : ByteArray)) ++ t232) (wrap64 (x12_2 + 1))) else (none)) = some r := H
                  have A27 := Aside0.mk A270
                  clear A270
                  by_cases c28 : (x11_2 ++ (⟨#[58]⟩ : ByteArray)).size + t232.size ≤ 9223372036854775807
                  ·rw [if_pos c28] at H
                   have c28b0 := eq_true c28
                   have c28b1 : decide ((x11_2 ++ (⟨#[58]⟩ : ByteArray)).size + t232.size ≤ 9223372036854775807) = true := decide_eq_true c28
                   try have c28b2 : (9223372036854775807 < (x11_2 ++ (⟨#[58]⟩ : ByteArray)).size + t232.size) = False := eq_false (Nat.not_lt.2 c28)
                   try have c28b3 : (9223372036854775807 < x11_2.size + 1 + t232.size) = False := eq_false (Nat.not_lt.2 (by have z_ := c28; simp only [ByteArray.size_append, ByteArray.size_extract, Nat.min_self] at z_; exact z_))
                   have H' := Aside0.mk H
                   clear H
                   go_wp2_with (first | ((with_reducible refine gate_callee (f := 12) rfl ?_); refine goesL_ (some 86) rfl rfl Tryd.func12 (by kernel_rfl) rfl #[.int .i64 (wrap64 (60 + (Int.tmod (wrap64 (a3)) 40)))] rfl (by (try simp only [List.map_toArray, List.map_cons, List.map_nil]); first | done | rfl | (simp only [List.length_drop, List.length_take]; rfl)) ?_; (with_reducible refine (targumref4_Text.calls kj16 (wrap64 (60 + (Int.tmod (wrap64 (a3)) 40))) t232 _ A27.out).mono ?_); rintro e w29 ⟨rfl, hb⟩; refine ⟨_, rfl, ?_⟩; have n0_ := Aside0.mk (below_step bl hb); clear HB; have HB := n0_; clear n0_; (try clear hb); (try clear hb2); (try clear hk); (try clear hi)))
                   go_roundg kj16
                   case measure => have := HJ6.out; have := HK2.out; have := HJ16.out; omega
                   case rel => exact ⟨((x9_2 ++ (⟨#[58]⟩ : ByteArray)) ++ ((⟨#[48]⟩ : ByteArray) ++ t230)), (wrap64 ((wrap64 (60 * x10_2)) + (wrap64 (Int.tmod (rd l1 x12_2) 60)))), ((x11_2 ++ (⟨#[58]⟩ : ByteArray)) ++ t232), (wrap64 (x12_2 + 1)), (by first | rfl | (simp; done) | (simp [*]; done) | (simp [wrap64]; done)), (by first | rfl | (simp; done) | (simp [*]; done) | (simp [wrap64]; done)), (by first | rfl | (simp; done) | (simp [*]; done) | (simp [wrap64]; done)), (by first | rfl | (simp; done) | (simp [*]; done) | (simp [wrap64]; done)), H', ⟨by have := HJ6.out; have := HK2.out; have := HJ16.out; omega⟩, ⟨bl⟩⟩
                  ·rw [if_neg c28] at H
                   exact absurd H (by simp)
                 ·rw [if_neg c26] at H
                  exact absurd H (by simp)
                ·rw [if_neg c25] at H
                 have c25b0 : (x12_2 == (Int.tmod (wrap64 (a3)) (l1.length : Int))) = false := beq_eq_false_iff_ne.mpr c25
                 have c25b1 : (x12_2 != (Int.tmod (wrap64 (a3)) (l1.length : Int))) = true := bne_iff_ne.mpr c25
                 by_cases c30 : x11_2.size + 1 ≤ 9223372036854775807
                 ·rw [if_pos c30] at H
                  have c30b0 := eq_true c30
                  have c30b1 : decide (x11_2.size + 1 ≤ 9223372036854775807) = true := decide_eq_true c30
                  try have c30b2 : (9223372036854775807 < x11_2.size + 1) = False := eq_false (Nat.not_lt.2 c30)
                  replace H := Option.bind_eq_some_iff.mp H
                  obtain ⟨t233, A310, H⟩ := H
                  replace H : (if (x11_2 ++ (⟨#[58]⟩ : ByteArray)).size + t233.size ≤ 9223372036854775807 then (targumlaw6_Int11Sixty.l0 kj16 l1 a2 a3 ((x9_2 ++ (⟨#[58]⟩ : ByteArray)) ++ ((⟨#[48]⟩ : ByteArray) ++ t230)) (wrap64 ((wrap64 (60 * x10_2)) + (wrap64 (Int.tmod (rd l1 x12_2) 60)))) ((x11_2 ++ (⟨#[58]⟩ : ByteArray)) ++ t233) (wrap64 (x12_2 + 1))) else (none)) = some r := H
                  have A31 := Aside0.mk A310
                  clear A310
                  by_cases c32 : (x11_2 ++ (⟨#[58]⟩ : ByteArray)).size + t233.size ≤ 9223372036854775807
                  ·rw [if_pos c32] at H
                   have c32b0 := eq_true c32
                   have c32b1 : decide ((x11_2 ++ (⟨#[58]⟩ : ByteArray)).size + t233.size ≤ 9223372036854775807) = true := decide_eq_true c32
                   try have c32b2 : (9223372036854775807 < (x11_2 ++ (⟨#[58]⟩ : ByteArray)).size + t233.size) = False := eq_false (Nat.not_lt.2 c32)
                   try have c32b3 : (9223372036854775807 < x11_2.size + 1 + t233.size) = False := eq_false (Nat.not_lt.2 (by have z_ := c32; simp only [ByteArray.size_append, ByteArray.size_extract, Nat.min_self] at z_; exact z_))
                   have H' := Aside0.mk H
                   clear H
                   go_wp2_with (first | ((with_reducible refine gate_callee (f := 12) rfl ?_); refine goesL_ (some 86) rfl rfl Tryd.func12 (by kernel_rfl) rfl #[.int .i64 (wrap64 (Int.tmod (rd l1 x12_2) 60))] rfl (by (try simp only [List.map_toArray, List.map_cons, List.map_nil]); first | done | rfl | (simp only [List.length_drop, List.length_take]; rfl)) ?_; (with_reducible refine (targumref4_Text.calls kj16 (wrap64 (Int.tmod (rd l1 x12_2) 60)) t233 _ A31.out).mono ?_); rintro e w33 ⟨rfl, hb⟩; refine ⟨_, rfl, ?_⟩; have n0_ := Aside0.mk (below_step bl hb); clear HB; have HB := n0_; clear n0_; (try clear hb); (try clear hb2); (try clear hk); (try clear hi)))
                   go_roundg kj16
                   case measure => have := HJ6.out; have := HK2.out; have := HJ16.out; omega
                   case rel => exact ⟨((x9_2 ++ (⟨#[58]⟩ : ByteArray)) ++ ((⟨#[48]⟩ : ByteArray) ++ t230)), (wrap64 ((wrap64 (60 * x10_2)) + (wrap64 (Int.tmod (rd l1 x12_2) 60)))), ((x11_2 ++ (⟨#[58]⟩ : ByteArray)) ++ t233), (wrap64 (x12_2 + 1)), (by first | rfl | (simp; done) | (simp [*]; done) | (simp [wrap64]; done)), (by first | rfl | (simp; done) | (simp [*]; done) | (simp [wrap64]; done)), (by first | rfl | (simp; done) | (simp [*]; done) | (simp [wrap64]; done)), (by first | rfl | (simp; done) | (simp [*]; done) | (simp [wrap64]; done)), H', ⟨by have := HJ6.out; have := HK2.out; have := HJ16.out; omega⟩, ⟨bl⟩⟩
                  ·rw [if_neg c32] at H
                   exact absurd H (by simp)
                 ·rw [if_neg c30] at H
                  exact absurd H (by simp)
              ·rw [if_neg c23] at H
               exact absurd H (by simp)
             ·rw [if_neg c22] at H
              exact absurd H (by simp)
            ·rw [if_neg c21] at H
             exact absurd H (by simp)
           ·replace c20 := Bool.eq_false_iff.mpr c20
            subst c20
            have H1 : (if x9_2.size + 1 ≤ 9223372036854775807 then (if (x9_2 ++ (⟨#[58]⟩ : ByteArray)).size + t230.size ≤ 9223372036854775807 then (if (l1.length : Int) = 0 then (none) else (if x12_2 = (Int.tmod (wrap64 (a3)) (l1.length : Int)) then (if x11_2.size + 1 ≤ 9223372036854775807 then ((targumref4_Text.f kj16 (wrap64 (60 + (Int.tmod (wrap64 (a3)) 40)))).bind fun t234 => (if (x11_2 ++ (⟨#[58]⟩ : ByteArray)).size + t234.size ≤ 9223372036854775807 then (targumlaw6_Int11Sixty.l0 kj16 l1 a2 a3 ((x9_2 ++ (⟨#[58]⟩ : ByteArray)) ++ t230) (wrap64 ((wrap64 (60 * x10_2)) + (wrap64 (Int.tmod (rd l1 x12_2) 60)))) ((x11_2 ++ (⟨#[58]⟩ : ByteArray)) ++ t234) (wrap64 (x12_2 + 1))) else (none))) else (none)) else (if x11_2.size + 1 ≤ 9223372036854775807 then ((targumref4_Text.f kj16 (wrap64 (Int.tmod (rd l1 x12_2) 60))).bind fun t235 => (if (x11_2 ++ (⟨#[58]⟩ : ByteArray)).size + t235.size ≤ 9223372036854775807 then (targumlaw6_Int11Sixty.l0 kj16 l1 a2 a3 ((x9_2 ++ (⟨#[58]⟩ : ByteArray)) ++ t230) (wrap64 ((wrap64 (60 * x10_2)) + (wrap64 (Int.tmod (rd l1 x12_2) 60)))) ((x11_2 ++ (⟨#[58]⟩ : ByteArray)) ++ t235) (wrap64 (x12_2 + 1))) else (none))) else (none)))) else (none)) else (none)) = some r := by rw [if_neg (show ¬ (false = true) by decide)] at H; exact H
            clear H
            have H := H1
            clear H1
            by_cases c34 : x9_2.size + 1 ≤ 9223372036854775807
            ·rw [if_pos c34] at H
             have c34b0 := eq_true c34
             have c34b1 : decide (x9_2.size + 1 ≤ 9223372036854775807) = true := decide_eq_true c34
             try have c34b2 : (9223372036854775807 < x9_2.size + 1) = False := eq_false (Nat.not_lt.2 c34)
             by_cases c35 : (x9_2 ++ (⟨#[58]⟩ : ByteArray)).size + t230.size ≤ 9223372036854775807
             ·rw [if_pos c35] at H
              have c35b0 := eq_true c35
              have c35b1 : decide ((x9_2 ++ (⟨#[58]⟩ : ByteArray)).size + t230.size ≤ 9223372036854775807) = true := decide_eq_true c35
              try have c35b2 : (9223372036854775807 < (x9_2 ++ (⟨#[58]⟩ : ByteArray)).size + t230.size) = False := eq_false (Nat.not_lt.2 c35)
              try have c35b3 : (9223372036854775807 < x9_2.size + 1 + t230.size) = False := eq_false (Nat.not_lt.2 (by have z_ := c35; simp only [ByteArray.size_append, ByteArray.size_extract, Nat.min_self] at z_; exact z_))
              by_cases c36 : (l1.length : Int) = 0
              ·rw [if_pos c36] at H
               exact absurd H (by simp)
              ·rw [if_neg c36] at H
               have c36b0 : ((l1.length : Int) == 0) = false := beq_eq_false_iff_ne.mpr c36
               have c36b1 : ((l1.length : Int) != 0) = true := bne_iff_ne.mpr c36
               have c36b2 : ¬ (l1 = []) := fun h_ => c36 (by rw [h_]; rfl)
               by_cases c37 : x12_2 = (Int.tmod (wrap64 (a3)) (l1.length : Int))
               ·rw [if_pos c37] at H
                have c37b0 : (x12_2 == (Int.tmod (wrap64 (a3)) (l1.length : Int))) = true := beq_iff_eq.mpr c37
                have c37b1 : (x12_2 != (Int.tmod (wrap64 (a3)) (l1.length : Int))) = false := bne_eq_false_iff_eq.mpr c37
                clear c37
                by_cases c38 : x11_2.size + 1 ≤ 9223372036854775807
                ·rw [if_pos c38] at H
                 have c38b0 := eq_true c38
                 have c38b1 : decide (x11_2.size + 1 ≤ 9223372036854775807) = true := decide_eq_true c38
                 try have c38b2 : (9223372036854775807 < x11_2.size + 1) = False := eq_false (Nat.not_lt.2 c38)
                 replace H := Option.bind_eq_some_iff.mp H
                 obtain ⟨t234, A390, H⟩ := H
                 replace H : (if (x11_2 ++ (⟨#[58]⟩ : ByteArray)).size + t234.size ≤ 9223372036854775807 then (targumlaw6_Int11Sixty.l0 kj16 l1 a2 a3 ((x9_2 ++ (⟨#[58]⟩ : ByteArray)) ++ t230) (wrap64 ((wrap64 (60 * x10_2)) + (wrap64 (Int.tmod (rd l1 x12_2) 60)))) ((x11_2 ++ (⟨#[58]⟩ : ByteArray)) ++ t234) (wrap64 (x12_2 + 1))) else (none)) = some r := H
                 have A39 := Aside0.mk A390
                 clear A390
                 by_cases c40 : (x11_2 ++ (⟨#[58]⟩ : ByteArray)).size + t234.size ≤ 9223372036854775807
                 ·rw [if_pos c40] at H
                  have c40b0 := eq_true c40
                  have c40b1 : decide ((x11_2 ++ (⟨#[58]⟩ : ByteArray)).size + t234.size ≤ 9223372036854775807) = true := decide_eq_true c40
                  try have c40b2 : (9223372036854775807 < (x11_2 ++ (⟨#[58]⟩ : ByteArray)).size + t234.size) = False := eq_false (Nat.not_lt.2 c40)
                  try have c40b3 : (9223372036854775807 < x11_2.size + 1 + t234.size) = False := eq_false (Nat.not_lt.2 (by have z_ := c40; simp only [ByteArray.size_append, ByteArray.size_extract, Nat.min_self] at z_; exact z_))
                  have H' := Aside0.mk H
                  clear H
                  go_wp2_with (first | ((with_reducible refine gate_callee (f := 12) rfl ?_); refine goesL_ (some 86) rfl rfl Tryd.func12 (by kernel_rfl) rfl #[.int .i64 (wrap64 (60 + (Int.tmod (wrap64 (a3)) 40)))] rfl (by (try simp only [List.map_toArray, List.map_cons, List.map_nil]); first | done | rfl | (simp only [List.length_drop, List.length_take]; rfl)) ?_; (with_reducible refine (targumref4_Text.calls kj16 (wrap64 (60 + (Int.tmod (wrap64 (a3)) 40))) t234 _ A39.out).mono ?_); rintro e w41 ⟨rfl, hb⟩; refine ⟨_, rfl, ?_⟩; have n0_ := Aside0.mk (below_step bl hb); clear HB; have HB := n0_; clear n0_; (try clear hb); (try clear hb2); (try clear hk); (try clear hi)))
                  go_roundg kj16
                  case measure => have := HJ6.out; have := HK2.out; have := HJ16.out; omega
                  case rel => exact ⟨((x9_2 ++ (⟨#[58]⟩ : ByteArray)) ++ t230), (wrap64 ((wrap64 (60 * x10_2)) + (wrap64 (Int.tmod (rd l1 x12_2) 60)))), ((x11_2 ++ (⟨#[58]⟩ : ByteArray)) ++ t234), (wrap64 (x12_2 + 1)), (by first | rfl | (simp; done) | (simp [*]; done) | (simp [wrap64]; done)), (by first | rfl | (simp; done) | (simp [*]; done) | (simp [wrap64]; done)), (by first | rfl | (simp; done) | (simp [*]; done) | (simp [wrap64]; done)), (by first | rfl | (simp; done) | (simp [*]; done) | (simp [wrap64]; done)), H', ⟨by have := HJ6.out; have := HK2.out; have := HJ16.out; omega⟩, ⟨bl⟩⟩
                 ·rw [if_neg c40] at H
                  exact absurd H (by simp)
                ·rw [if_neg c38] at H
                 exact absurd H (by simp)
               ·rw [if_neg c37] at H
                have c37b0 : (x12_2 == (Int.tmod (wrap64 (a3)) (l1.length : Int))) = false := beq_eq_false_iff_ne.mpr c37
                have c37b1 : (x12_2 != (Int.tmod (wrap64 (a3)) (l1.length : Int))) = true := bne_iff_ne.mpr c37
                by_cases c42 : x11_2.size + 1 ≤ 9223372036854775807
                ·rw [if_pos c42] at H
                 have c42b0 := eq_true c42
                 have c42b1 : decide (x11_2.size + 1 ≤ 9223372036854775807) = true := decide_eq_true c42
                 try have c42b2 : (9223372036854775807 < x11_2.size + 1) = False := eq_false (Nat.not_lt.2 c42)
                 replace H := Option.bind_eq_some_iff.mp H
                 obtain ⟨t235, A430, H⟩ := H
                 replace H : (if (x11_2 ++ (⟨#[58]⟩ : ByteArray)).size + t235.size ≤ 9223372036854775807 then (targumlaw6_Int11Sixty.l0 kj16 l1 a2 a3 ((x9_2 ++ (⟨#[58]⟩ : ByteArray)) ++ t230) (wrap64 ((wrap64 (60 * x10_2)) + (wrap64 (Int.tmod (rd l1 x12_2) 60)))) ((x11_2 ++ (⟨#[58]⟩ : ByteArray)) ++ t235) (wrap64 (x12_2 + 1))) else (none)) = some r := H
                 have A43 := Aside0.mk A430
                 clear A430
                 by_cases c44 : (x11_2 ++ (⟨#[58]⟩ : ByteArray)).size + t235.size ≤ 9223372036854775807
                 ·rw [if_pos c44] at H
                  have c44b0 := eq_true c44
                  have c44b1 : decide ((x11_2 ++ (⟨#[58]⟩ : ByteArray)).size + t235.size ≤ 9223372036854775807) = true := decide_eq_true c44
                  try have c44b2 : (9223372036854775807 < (x11_2 ++ (⟨#[58]⟩ : ByteArray)).size + t235.size) = False := eq_false (Nat.not_lt.2 c44)
                  try have c44b3 : (9223372036854775807 < x11_2.size + 1 + t235.size) = False := eq_false (Nat.not_lt.2 (by have z_ := c44; simp only [ByteArray.size_append, ByteArray.size_extract, Nat.min_self] at z_; exact z_))
                  have H' := Aside0.mk H
                  clear H
                  go_wp2_with (first | ((with_reducible refine gate_callee (f := 12) rfl ?_); refine goesL_ (some 86) rfl rfl Tryd.func12 (by kernel_rfl) rfl #[.int .i64 (wrap64 (Int.tmod (rd l1 x12_2) 60))] rfl (by (try simp only [List.map_toArray, List.map_cons, List.map_nil]); first | done | rfl | (simp only [List.length_drop, List.length_take]; rfl)) ?_; (with_reducible refine (targumref4_Text.calls kj16 (wrap64 (Int.tmod (rd l1 x12_2) 60)) t235 _ A43.out).mono ?_); rintro e w45 ⟨rfl, hb⟩; refine ⟨_, rfl, ?_⟩; have n0_ := Aside0.mk (below_step bl hb); clear HB; have HB := n0_; clear n0_; (try clear hb); (try clear hb2); (try clear hk); (try clear hi)))
                  go_roundg kj16
                  case measure => have := HJ6.out; have := HK2.out; have := HJ16.out; omega
                  case rel => exact ⟨((x9_2 ++ (⟨#[58]⟩ : ByteArray)) ++ t230), (wrap64 ((wrap64 (60 * x10_2)) + (wrap64 (Int.tmod (rd l1 x12_2) 60)))), ((x11_2 ++ (⟨#[58]⟩ : ByteArray)) ++ t235), (wrap64 (x12_2 + 1)), (by first | rfl | (simp; done) | (simp [*]; done) | (simp [wrap64]; done)), (by first | rfl | (simp; done) | (simp [*]; done) | (simp [wrap64]; done)), (by first | rfl | (simp; done) | (simp [*]; done) | (simp [wrap64]; done)), (by first | rfl | (simp; done) | (simp [*]; done) | (simp [wrap64]; done)), H', ⟨by have := HJ6.out; have := HK2.out; have := HJ16.out; omega⟩, ⟨bl⟩⟩
                 ·rw [if_neg c44] at H
                  exact absurd H (by simp)
                ·rw [if_neg c42] at H
                 exact absurd H (by simp)
             ·rw [if_neg c35] at H
              exact absurd H (by simp)
            ·rw [if_neg c34] at H
             exact absurd H (by simp)
        ·rw [if_neg c15] at H
         exact absurd H (by simp)
       ·rw [if_neg c14] at H
        have c14b0 : decide (x12_2 < (l1.length : Int)) = false := decide_eq_false c14
        clear c14
        replace H := Option.bind_eq_some_iff.mp H
        obtain ⟨t236, A460, H⟩ := H
        replace H : (if a2 = true then (if 1 + t236.size ≤ 9223372036854775807 then (targumlaw6_Int11Sixty.j3 k2 x9_2 x11_2 ((⟨#[45]⟩ : ByteArray) ++ t236) (⟨#[45]⟩ : ByteArray)) else (none)) else (targumlaw6_Int11Sixty.j3 k2 x9_2 x11_2 t236 (⟨#[]⟩ : ByteArray))) = some r := H
        have A46 := Aside0.mk A460
        clear A460
        have HC47 := Aside0.mk H
        clear H
        go_upto_if 90 with (first | ((with_reducible refine gate_callee (f := 12) rfl ?_); refine goesL_ (some 89) rfl rfl Tryd.func12 (by kernel_rfl) rfl #[.int .i64 x10_2] rfl (by (try simp only [List.map_toArray, List.map_cons, List.map_nil]); first | done | rfl | (simp only [List.length_drop, List.length_take]; rfl)) ?_; (with_reducible refine (targumref4_Text.calls k2 x10_2 t236 _ A46.out).mono ?_); rintro e w48 ⟨rfl, hb⟩; refine ⟨_, rfl, ?_⟩; have n0_ := Aside0.mk (below_step bl hb); clear HB; have HB := n0_; clear n0_; (try clear hb); (try clear hb2); (try clear hk); (try clear hi)))
        (try simp only [Act.put, List.setIfInBounds_toArray, List.set_cons_zero, List.set_cons_succ])
        go_cut [15, 16] (fun v15 v16 wc => ∃ (kq : Nat) (x15_46 : ByteArray) (x16_46 : ByteArray), v15 = .string x15_46 ∧ v16 = .string x16_46 ∧ Aside0 (targumlaw6_Int11Sixty.j3 kq x9_2 x11_2 x15_46 x16_46 = some r) ∧ Aside0 (kq ≤ k2) ∧ Aside0 (Below w.heap.size w wc))
        case first =>
         have H := HC47.out
         clear HC47
         by_cases c49 : a2 = true
         ·subst c49
          have H1 : (if 1 + t236.size ≤ 9223372036854775807 then (targumlaw6_Int11Sixty.j3 k2 x9_2 x11_2 ((⟨#[45]⟩ : ByteArray) ++ t236) (⟨#[45]⟩ : ByteArray)) else (none)) = some r := by rw [if_pos rfl] at H; exact H
          clear H
          have H := H1
          clear H1
          by_cases c50 : 1 + t236.size ≤ 9223372036854775807
          ·rw [if_pos c50] at H
           have c50b0 := eq_true c50
           have c50b1 : decide (1 + t236.size ≤ 9223372036854775807) = true := decide_eq_true c50
           try have c50b2 : (9223372036854775807 < 1 + t236.size) = False := eq_false (Nat.not_lt.2 c50)
           have H' := Aside0.mk H
           clear H
           go_wp2
           go_meet
           case rel => exact ⟨_, ((⟨#[45]⟩ : ByteArray) ++ t236), ((⟨#[45]⟩ : ByteArray)), (by first | rfl | (simp; done) | (simp [*]; done) | (simp [wrap64]; done)), (by first | rfl | (simp; done) | (simp [*]; done) | (simp [wrap64]; done)), H', ⟨by have := HJ6.out; have := HK2.out; first | omega | exact Nat.le_refl _⟩, ⟨bl⟩⟩
          ·rw [if_neg c50] at H
           exact absurd H (by simp)
         ·replace c49 := Bool.eq_false_iff.mpr c49
          subst c49
          have H1 : (targumlaw6_Int11Sixty.j3 k2 x9_2 x11_2 t236 (⟨#[]⟩ : ByteArray)) = some r := by rw [if_neg (show ¬ (false = true) by decide)] at H; exact H
          clear H
          have H := H1
          clear H1
          have H' := Aside0.mk H
          clear H
          go_wp2
          go_meet
          case rel => exact ⟨_, (t236), ((⟨#[]⟩ : ByteArray)), (by first | rfl | (simp; done) | (simp [*]; done) | (simp [wrap64]; done)), (by first | rfl | (simp; done) | (simp [*]; done) | (simp [wrap64]; done)), H', ⟨by have := HJ6.out; have := HK2.out; first | omega | exact Nat.le_refl _⟩, ⟨bl⟩⟩
        case rest =>
         clear HC47
         try clear c1; try clear c2; try clear p2; try clear q2; try clear hx2; try clear c3; try clear c4; try clear c5; try clear c6; try clear p6; try clear c9; try clear c9b0; try clear c9b1; try clear c10; try clear c10b0; try clear c10b1; try clear c11; try clear c12; try clear c14; try clear c14b0; try clear c15; try clear c15b0; try clear c19; try clear c19b0; try clear c20; try clear c21; try clear c21b0; try clear c21b1; try clear c21b2; try clear c22; try clear c22b0; try clear c22b1; try clear c22b2; try clear p22; try clear q22; try clear hx22; try clear c23; try clear c23b0; try clear c23b1; try clear c23b2; try clear p23; try clear q23; try clear hx23; try clear c24; try clear c24b0; try clear c24b1; try clear c24b2; try clear c25; try clear c25b0; try clear c25b1; try clear c26; try clear c26b0; try clear c26b1; try clear c26b2; try clear c28; try clear c28b0; try clear c28b1; try clear c28b2; try clear c30; try clear c30b0; try clear c30b1; try clear c30b2; try clear c32; try clear c32b0; try clear c32b1; try clear c32b2; try clear c34; try clear c34b0; try clear c34b1; try clear c34b2; try clear c35; try clear c35b0; try clear c35b1; try clear c35b2; try clear c36; try clear c36b0; try clear c36b1; try clear c36b2; try clear c37; try clear c37b0; try clear c37b1; try clear c38; try clear c38b0; try clear c38b1; try clear c38b2; try clear c40; try clear c40b0; try clear c40b1; try clear c40b2; try clear c42; try clear c42b0; try clear c42b1; try clear c42b2; try clear c44; try clear c44b0; try clear c44b1; try clear c44b2; try clear c49; try clear c50; try clear c50b0; try clear c50b1; try clear c50b2; try clear hx229_0; try clear hx231_0; try clear p2; try clear p229; try clear p231; try clear p6; try clear q2; try clear q229; try clear q231
         obtain ⟨kq, x15_46, x16_46, rfl, rfl, HA, HJ46, HB⟩ := hcut
         cases kq with
         | zero => exact absurd HA.out (by simp [targumlaw6_Int11Sixty.j3])
         | succ kj46 =>
          have H := HA.out
          clear HA
          simp only [targumlaw6_Int11Sixty.j3] at H
          by_cases c51 : x16_46.size + x9_2.size ≤ 9223372036854775807
          ·rw [if_pos c51] at H
           have c51b0 := eq_true c51
           have c51b1 : decide (x16_46.size + x9_2.size ≤ 9223372036854775807) = true := decide_eq_true c51
           try have c51b2 : (9223372036854775807 < x16_46.size + x9_2.size) = False := eq_false (Nat.not_lt.2 c51)
           replace H := Option.bind_eq_some_iff.mp H
           obtain ⟨⟨t237, t238⟩, A520, H⟩ := H
           replace H : (if t238 = true then (if t237.toList = x15_46.toList then ((int11_Form.f x9_2).bind fun t239 => (if t239 = 6 then ((int11_Form.f x11_2).bind fun t240 => (if t240 = 0 then (if x9_2.size + 1 ≤ 9223372036854775807 then ((int11_Is.f (x9_2 ++ (⟨#[58]⟩ : ByteArray))).bind fun t241 => (if t241 = true then (some false) else (if 1 + x9_2.size ≤ 9223372036854775807 then ((int11_Is.f ((⟨#[58]⟩ : ByteArray) ++ x9_2)).bind fun t242 => (if t242 = true then (some false) else (if x9_2.size + 4 ≤ 9223372036854775807 then ((int11_Is.f (x9_2 ++ (⟨#[58, 48, 48, 48]⟩ : ByteArray))).bind fun t243 => (some (!t243))) else (none)))) else (none)))) else (none)) else (some false))) else (some false))) else (some false)) else (some false)) = some r := H
           have A52 := Aside0.mk A520
           clear A520
           by_cases c53 : t238 = true
           ·subst c53
            have H1 : (if t237.toList = x15_46.toList then ((int11_Form.f x9_2).bind fun t239 => (if t239 = 6 then ((int11_Form.f x11_2).bind fun t240 => (if t240 = 0 then (if x9_2.size + 1 ≤ 9223372036854775807 then ((int11_Is.f (x9_2 ++ (⟨#[58]⟩ : ByteArray))).bind fun t241 => (if t241 = true then (some false) else (if 1 + x9_2.size ≤ 9223372036854775807 then ((int11_Is.f ((⟨#[58]⟩ : ByteArray) ++ x9_2)).bind fun t242 => (if t242 = true then (some false) else (if x9_2.size + 4 ≤ 9223372036854775807 then ((int11_Is.f (x9_2 ++ (⟨#[58, 48, 48, 48]⟩ : ByteArray))).bind fun t243 => (some (!t243))) else (none)))) else (none)))) else (none)) else (some false))) else (some false))) else (some false)) = some r := by rw [if_pos rfl] at H; exact H
            clear H
            have H := H1
            clear H1
            by_cases c54 : t237.toList = x15_46.toList
            ·rw [if_pos c54] at H
             have c54b0 : (t237.toList == x15_46.toList) = true := beq_iff_eq.mpr c54
             have c54b1 : (t237.toList != x15_46.toList) = false := bne_eq_false_iff_eq.mpr c54
             clear c54
             replace H := Option.bind_eq_some_iff.mp H
             obtain ⟨t239, A550, H⟩ := H
             replace H : (if t239 = 6 then ((int11_Form.f x11_2).bind fun t240 => (if t240 = 0 then (if x9_2.size + 1 ≤ 9223372036854775807 then ((int11_Is.f (x9_2 ++ (⟨#[58]⟩ : ByteArray))).bind fun t241 => (if t241 = true then (some false) else (if 1 + x9_2.size ≤ 9223372036854775807 then ((int11_Is.f ((⟨#[58]⟩ : ByteArray) ++ x9_2)).bind fun t242 => (if t242 = true then (some false) else (if x9_2.size + 4 ≤ 9223372036854775807 then ((int11_Is.f (x9_2 ++ (⟨#[58, 48, 48, 48]⟩ : ByteArray))).bind fun t243 => (some (!t243))) else (none)))) else (none)))) else (none)) else (some false))) else (some false)) = some r := H
             have A55 := Aside0.mk A550
             clear A550
             by_cases c56 : t239 = 6
             ·rw [if_pos c56] at H
              have c56b0 : (t239 == 6) = true := beq_iff_eq.mpr c56
              have c56b1 : (t239 != 6) = false := bne_eq_false_iff_eq.mpr c56
              clear c56
              replace H := Option.bind_eq_some_iff.mp H
              obtain ⟨t240, A570, H⟩ := H
              replace H : (if t240 = 0 then (if x9_2.size + 1 ≤ 9223372036854775807 then ((int11_Is.f (x9_2 ++ (⟨#[58]⟩ : ByteArray))).bind fun t241 => (if t241 = true then (some false) else (if 1 + x9_2.size ≤ 9223372036854775807 then ((int11_Is.f ((⟨#[58]⟩ : ByteArray) ++ x9_2)).bind fun t242 => (if t242 = true then (some false) else (if x9_2.size + 4 ≤ 9223372036854775807 then ((int11_Is.f (x9_2 ++ (⟨#[58, 48, 48, 48]⟩ : ByteArray))).bind fun t243 => (some (!t243))) else (none)))) else (none)))) else (none)) else (some false)) = some r := H
              have A57 := Aside0.mk A570
              clear A570
              by_cases c58 : t240 = 0
              ·rw [if_pos c58] at H
               have c58b0 : (t240 == 0) = true := beq_iff_eq.mpr c58
               have c58b1 : (t240 != 0) = false := bne_eq_false_iff_eq.mpr c58
               clear c58
               by_cases c59 : x9_2.size + 1 ≤ 9223372036854775807
               ·rw [if_pos c59] at H
                have c59b0 := eq_true c59
                have c59b1 : decide (x9_2.size + 1 ≤ 9223372036854775807) = true := decide_eq_true c59
                try have c59b2 : (9223372036854775807 < x9_2.size + 1) = False := eq_false (Nat.not_lt.2 c59)
                replace H := Option.bind_eq_some_iff.mp H
                obtain ⟨t241, A600, H⟩ := H
                replace H : (if t241 = true then (some false) else (if 1 + x9_2.size ≤ 9223372036854775807 then ((int11_Is.f ((⟨#[58]⟩ : ByteArray) ++ x9_2)).bind fun t242 => (if t242 = true then (some false) else (if x9_2.size + 4 ≤ 9223372036854775807 then ((int11_Is.f (x9_2 ++ (⟨#[58, 48, 48, 48]⟩ : ByteArray))).bind fun t243 => (some (!t243))) else (none)))) else (none))) = some r := H
                have A60 := Aside0.mk A600
                clear A600
                by_cases c61 : t241 = true
                ·subst c61
                 have H1 : (some false) = some r := by rw [if_pos rfl] at H; exact H
                 clear H
                 have H := H1
                 clear H1
                 obtain rfl := Option.some.inj H
                 go_wp2_with (first | ((with_reducible refine gate_callee (f := 13) rfl ?_); refine goesL_ (some 97) rfl rfl Tryd.func13 (by kernel_rfl) rfl #[.string (x16_46 ++ x9_2)] rfl (by (try simp only [List.map_toArray, List.map_cons, List.map_nil]); first | done | rfl | (simp only [List.length_drop, List.length_take]; rfl)) ?_; (with_reducible refine (int11_Of.calls kj46 (x16_46 ++ x9_2) t237 true _ ?side1 A52.out).mono ?_); (case side1 => exact Go.Proofs.YtkijneohhilboaaDoor.PIT.Tabs_below HG.out bl); rintro e w62 ⟨rfl, hb⟩; refine ⟨_, rfl, ?_⟩; have n0_ := Aside0.mk (below_step bl hb); clear HB; have HB := n0_; clear n0_; (try clear hb); (try clear hb2); (try clear hk); (try clear hi)) | (go_at_call 14; (with_reducible refine (int11_Form.calls x9_2 t239 _ A55.out).mono ?_); rintro e w63 ⟨rfl, hb⟩; have n0_ := Aside0.mk (below_step bl hb); clear HB; have HB := n0_; clear n0_; (try clear hb); (try clear hb2); (try clear hk); (try clear hi)) | (go_at_call 14; (with_reducible refine (int11_Form.calls x11_2 t240 _ A57.out).mono ?_); rintro e w64 ⟨rfl, hb⟩; have n0_ := Aside0.mk (below_step bl hb); clear HB; have HB := n0_; clear n0_; (try clear hb); (try clear hb2); (try clear hk); (try clear hi)) | (go_at_call 16; (with_reducible refine (int11_Is.calls (x9_2 ++ (⟨#[58]⟩ : ByteArray)) true _ A60.out).mono ?_); rintro e w65 ⟨rfl, hb⟩; have n0_ := Aside0.mk (below_step bl hb); clear HB; have HB := n0_; clear n0_; (try clear hb); (try clear hb2); (try clear hk); (try clear hi)))
                 go_ret
                 exact ⟨by first | rfl | (simp [errW_none, errW_some] <;> rfl) | (simp [*, errW_none, errW_some] <;> rfl), bl⟩
                ·replace c61 := Bool.eq_false_iff.mpr c61
                 subst c61
                 have H1 : (if 1 + x9_2.size ≤ 9223372036854775807 then ((int11_Is.f ((⟨#[58]⟩ : ByteArray) ++ x9_2)).bind fun t242 => (if t242 = true then (some false) else (if x9_2.size + 4 ≤ 9223372036854775807 then ((int11_Is.f (x9_2 ++ (⟨#[58, 48, 48, 48]⟩ : ByteArray))).bind fun t243 => (some (!t243))) else (none)))) else (none)) = some r := by rw [if_neg (show ¬ (false = true) by decide)] at H; exact H
                 clear H
                 have H := H1
                 clear H1
                 by_cases c66 : 1 + x9_2.size ≤ 9223372036854775807
                 ·rw [if_pos c66] at H
                  have c66b0 := eq_true c66
                  have c66b1 : decide (1 + x9_2.size ≤ 9223372036854775807) = true := decide_eq_true c66
                  try have c66b2 : (9223372036854775807 < 1 + x9_2.size) = False := eq_false (Nat.not_lt.2 c66)
                  replace H := Option.bind_eq_some_iff.mp H
                  obtain ⟨t242, A670, H⟩ := H
                  replace H : (if t242 = true then (some false) else (if x9_2.size + 4 ≤ 9223372036854775807 then ((int11_Is.f (x9_2 ++ (⟨#[58, 48, 48, 48]⟩ : ByteArray))).bind fun t243 => (some (!t243))) else (none))) = some r := H
                  have A67 := Aside0.mk A670
                  clear A670
                  refine Classical.byCases (p := (t242 = true)) (fun c68 => ?x1) (fun c68 => ?y1)
                  case' x1 =>
                   subst c68
                   have H1 : (some false) = some r := by rw [if_pos rfl] at H; exact H
                   clear H
                   have H := H1
                   clear H1
                   obtain rfl := Option.some.inj H
                   skip
                  case' y1 =>
                   replace c68 := Bool.eq_false_iff.mpr c68
                   subst c68
                   have H1 : (if x9_2.size + 4 ≤ 9223372036854775807 then ((int11_Is.f (x9_2 ++ (⟨#[58, 48, 48, 48]⟩ : ByteArray))).bind fun t243 => (some (!t243))) else (none)) = some r := by rw [if_neg (show ¬ (false = true) by decide)] at H; exact H
                   clear H
                   have H := H1
                   clear H1
                   refine Classical.byCases (p := (x9_2.size + 4 ≤ 9223372036854775807)) (fun c74 => ?x2) (fun c74 => ?y2)
                   case' x2 =>
                    rw [if_pos c74] at H
                    have c74b0 := eq_true c74
                    have c74b1 : decide (x9_2.size + 4 ≤ 9223372036854775807) = true := decide_eq_true c74
                    try have c74b2 : (9223372036854775807 < x9_2.size + 4) = False := eq_false (Nat.not_lt.2 c74)
                    replace H := Option.bind_eq_some_iff.mp H
                    obtain ⟨t243, A750, H⟩ := H
                    replace H : (some (!t243)) = some r := H
                    have A75 := Aside0.mk A750
                    clear A750
                    obtain rfl := Option.some.inj H
                    skip
                   case' y2 =>
                    rw [if_neg c74] at H
                    exact absurd H (by simp)
                  case x1 | y1 =>
                   as_aux_lemma =>
                    go_wp2_with (first | ((with_reducible refine gate_callee (f := 13) rfl ?_); refine goesL_ (some 97) rfl rfl Tryd.func13 (by kernel_rfl) rfl #[.string (x16_46 ++ x9_2)] rfl (by (try simp only [List.map_toArray, List.map_cons, List.map_nil]); first | done | rfl | (simp only [List.length_drop, List.length_take]; rfl)) ?_; (with_reducible refine (int11_Of.calls _ _ _ _ _ ?side1 A52.out).mono ?_); (case side1 => exact Go.Proofs.YtkijneohhilboaaDoor.PIT.Tabs_below HG.out bl); rintro e w76 ⟨rfl, hb⟩; refine ⟨_, rfl, ?_⟩; have n0_ := Aside0.mk (below_step bl hb); clear HB; have HB := n0_; clear n0_; (try clear hb); (try clear hb2); (try clear hk); (try clear hi)) | (go_at_call 14; (with_reducible refine (int11_Form.calls _ _ _ A55.out).mono ?_); rintro e w77 ⟨rfl, hb⟩; have n0_ := Aside0.mk (below_step bl hb); clear HB; have HB := n0_; clear n0_; (try clear hb); (try clear hb2); (try clear hk); (try clear hi)) | (go_at_call 14; (with_reducible refine (int11_Form.calls _ _ _ A57.out).mono ?_); rintro e w78 ⟨rfl, hb⟩; have n0_ := Aside0.mk (below_step bl hb); clear HB; have HB := n0_; clear n0_; (try clear hb); (try clear hb2); (try clear hk); (try clear hi)) | (go_at_call 16; (with_reducible refine (int11_Is.calls _ _ _ A60.out).mono ?_); rintro e w79 ⟨rfl, hb⟩; have n0_ := Aside0.mk (below_step bl hb); clear HB; have HB := n0_; clear n0_; (try clear hb); (try clear hb2); (try clear hk); (try clear hi)) | (go_at_call 16; (with_reducible refine (int11_Is.calls _ _ _ A67.out).mono ?_); rintro e w80 ⟨rfl, hb⟩; have n0_ := Aside0.mk (below_step bl hb); clear HB; have HB := n0_; clear n0_; (try clear hb); (try clear hb2); (try clear hk); (try clear hi)) | (go_at_call 16; (with_reducible refine (int11_Is.calls _ _ _ A75.out).mono ?_); rintro e w81 ⟨rfl, hb⟩; have n0_ := Aside0.mk (below_step bl hb); clear HB; have HB := n0_; clear n0_; (try clear hb); (try clear hb2); (try clear hk); (try clear hi)))
                    go_ret
                    exact ⟨by first | rfl | (simp [errW_none, errW_some] <;> rfl) | (simp [*, errW_none, errW_some] <;> rfl), bl⟩
                 ·rw [if_neg c66] at H
                  exact absurd H (by simp)
               ·rw [if_neg c59] at H
                exact absurd H (by simp)
              ·rw [if_neg c58] at H
               have c58b0 : (t240 == 0) = false := beq_eq_false_iff_ne.mpr c58
               have c58b1 : (t240 != 0) = true := bne_iff_ne.mpr c58
               obtain rfl := Option.some.inj H
               go_wp2_with (first | ((with_reducible refine gate_callee (f := 13) rfl ?_); refine goesL_ (some 97) rfl rfl Tryd.func13 (by kernel_rfl) rfl #[.string (x16_46 ++ x9_2)] rfl (by (try simp only [List.map_toArray, List.map_cons, List.map_nil]); first | done | rfl | (simp only [List.length_drop, List.length_take]; rfl)) ?_; (with_reducible refine (int11_Of.calls kj46 (x16_46 ++ x9_2) t237 true _ ?side1 A52.out).mono ?_); (case side1 => exact Go.Proofs.YtkijneohhilboaaDoor.PIT.Tabs_below HG.out bl); rintro e w82 ⟨rfl, hb⟩; refine ⟨_, rfl, ?_⟩; have n0_ := Aside0.mk (below_step bl hb); clear HB; have HB := n0_; clear n0_; (try clear hb); (try clear hb2); (try clear hk); (try clear hi)) | (go_at_call 14; (with_reducible refine (int11_Form.calls x9_2 t239 _ A55.out).mono ?_); rintro e w83 ⟨rfl, hb⟩; have n0_ := Aside0.mk (below_step bl hb); clear HB; have HB := n0_; clear n0_; (try clear hb); (try clear hb2); (try clear hk); (try clear hi)) | (go_at_call 14; (with_reducible refine (int11_Form.calls x11_2 t240 _ A57.out).mono ?_); rintro e w84 ⟨rfl, hb⟩; have n0_ := Aside0.mk (below_step bl hb); clear HB; have HB := n0_; clear n0_; (try clear hb); (try clear hb2); (try clear hk); (try clear hi)))
               go_ret
               exact ⟨by first | rfl | (simp [errW_none, errW_some] <;> rfl) | (simp [*, errW_none, errW_some] <;> rfl), bl⟩
             ·rw [if_neg c56] at H
              have c56b0 : (t239 == 6) = false := beq_eq_false_iff_ne.mpr c56
              have c56b1 : (t239 != 6) = true := bne_iff_ne.mpr c56
              obtain rfl := Option.some.inj H
              go_wp2_with (first | ((with_reducible refine gate_callee (f := 13) rfl ?_); refine goesL_ (some 97) rfl rfl Tryd.func13 (by kernel_rfl) rfl #[.string (x16_46 ++ x9_2)] rfl (by (try simp only [List.map_toArray, List.map_cons, List.map_nil]); first | done | rfl | (simp only [List.length_drop, List.length_take]; rfl)) ?_; (with_reducible refine (int11_Of.calls kj46 (x16_46 ++ x9_2) t237 true _ ?side1 A52.out).mono ?_); (case side1 => exact Go.Proofs.YtkijneohhilboaaDoor.PIT.Tabs_below HG.out bl); rintro e w85 ⟨rfl, hb⟩; refine ⟨_, rfl, ?_⟩; have n0_ := Aside0.mk (below_step bl hb); clear HB; have HB := n0_; clear n0_; (try clear hb); (try clear hb2); (try clear hk); (try clear hi)) | (go_at_call 14; (with_reducible refine (int11_Form.calls x9_2 t239 _ A55.out).mono ?_); rintro e w86 ⟨rfl, hb⟩; have n0_ := Aside0.mk (below_step bl hb); clear HB; have HB := n0_; clear n0_; (try clear hb); (try clear hb2); (try clear hk); (try clear hi)))
              go_ret
              exact ⟨by first | rfl | (simp [errW_none, errW_some] <;> rfl) | (simp [*, errW_none, errW_some] <;> rfl), bl⟩
            ·rw [if_neg c54] at H
             have c54b0 : (t237.toList == x15_46.toList) = false := beq_eq_false_iff_ne.mpr c54
             have c54b1 : (t237.toList != x15_46.toList) = true := bne_iff_ne.mpr c54
             obtain rfl := Option.some.inj H
             go_wp2_with (first | ((with_reducible refine gate_callee (f := 13) rfl ?_); refine goesL_ (some 97) rfl rfl Tryd.func13 (by kernel_rfl) rfl #[.string (x16_46 ++ x9_2)] rfl (by (try simp only [List.map_toArray, List.map_cons, List.map_nil]); first | done | rfl | (simp only [List.length_drop, List.length_take]; rfl)) ?_; (with_reducible refine (int11_Of.calls kj46 (x16_46 ++ x9_2) t237 true _ ?side1 A52.out).mono ?_); (case side1 => exact Go.Proofs.YtkijneohhilboaaDoor.PIT.Tabs_below HG.out bl); rintro e w87 ⟨rfl, hb⟩; refine ⟨_, rfl, ?_⟩; have n0_ := Aside0.mk (below_step bl hb); clear HB; have HB := n0_; clear n0_; (try clear hb); (try clear hb2); (try clear hk); (try clear hi)))
             go_ret
             exact ⟨by first | rfl | (simp [errW_none, errW_some] <;> rfl) | (simp [*, errW_none, errW_some] <;> rfl), bl⟩
           ·replace c53 := Bool.eq_false_iff.mpr c53
            subst c53
            have H1 : (some false) = some r := by rw [if_neg (show ¬ (false = true) by decide)] at H; exact H
            clear H
            have H := H1
            clear H1
            obtain rfl := Option.some.inj H
            go_wp2_with (first | ((with_reducible refine gate_callee (f := 13) rfl ?_); refine goesL_ (some 97) rfl rfl Tryd.func13 (by kernel_rfl) rfl #[.string (x16_46 ++ x9_2)] rfl (by (try simp only [List.map_toArray, List.map_cons, List.map_nil]); first | done | rfl | (simp only [List.length_drop, List.length_take]; rfl)) ?_; (with_reducible refine (int11_Of.calls kj46 (x16_46 ++ x9_2) t237 false _ ?side1 A52.out).mono ?_); (case side1 => exact Go.Proofs.YtkijneohhilboaaDoor.PIT.Tabs_below HG.out bl); rintro e w88 ⟨rfl, hb⟩; refine ⟨_, rfl, ?_⟩; have n0_ := Aside0.mk (below_step bl hb); clear HB; have HB := n0_; clear n0_; (try clear hb); (try clear hb2); (try clear hk); (try clear hi)))
            go_ret
            exact ⟨by first | rfl | (simp [errW_none, errW_some] <;> rfl) | (simp [*, errW_none, errW_some] <;> rfl), bl⟩
          ·rw [if_neg c51] at H
           exact absurd H (by simp)
 ·replace c6 := Bool.eq_false_iff.mpr c6
  subst c6
  have H1 : (some false) = some r := by rw [if_neg (show ¬ (false = true) by decide)] at H; exact H
  clear H
  have H := H1
  clear H1
  obtain rfl := Option.some.inj H
  go_enter Tryd.func6, Tryd.ntmps6
  go_wp2_with (first | ((with_reducible refine gate_callee (f := 10) rfl ?_); refine goesL_ (some 19) rfl rfl Tryd.func10 (by kernel_rfl) rfl #[] rfl (by (try simp only [List.map_toArray, List.map_cons, List.map_nil]); first | done | rfl | (simp only [List.length_drop, List.length_take]; rfl)) ?_; (with_reducible refine (targumlaw6_known.calls k  false _ ?side1 A5.out).mono ?_); (case side1 => exact Go.Proofs.YtkijneohhilboaaDoor.PIT.Tabs_below HG.out bl); rintro e w89 ⟨rfl, hb⟩; refine ⟨_, rfl, ?_⟩; have n0_ := Aside0.mk (below_step bl hb); clear HB; have HB := n0_; clear n0_; (try clear hb); (try clear hb2); (try clear hk); (try clear hi)))
  go_ret
  exact ⟨by first | rfl | (simp [errW_none, errW_some] <;> rfl) | (simp [*, errW_none, errW_some] <;> rfl), bl⟩

/-- THE ONE PURE STATEMENT of targumlaw6_Int11Sixty: yours. -/
def targumlaw6_Int11Sixty.Pure : Prop := ∀ (a0 : Int) (l1 : List Int) (a2 : Bool) (a3 : Int), (Lit.int .u16 a0).wf = true → l1.length ≤ maxLen → l1.length * 1 ≤ 140737488351232 → (∀ x ∈ l1, (Lit.int .u8 x).wf = true) → (Lit.int .u8 a3).wf = true → ∃ k, targumlaw6_Int11Sixty.f k a0 l1 a2 a3 = some true
theorem targumlaw6_Int11Sixty.walk (P : targumlaw6_Int11Sixty.Pure) (a0 : Int) (a1 : Option Addr) (len1 cap1 : Nat) (z1 : List Int) (a2 : Bool) (a3 : Int) (w : World) (w0 : (Lit.int .u16 a0).wf = true) (w1 : (a1 = none ∧ len1 = 0 ∧ cap1 = 0 ∧ z1 = []) ∨ ∃ x, a1 = some x ∧ len1 ≤ cap1 ∧ cap1 ≤ maxLen ∧ z1.length = cap1 ∧ (∀ i, i < z1.length → w.cell? (x.add i) = some (.int .u8 (z1.getD i 0))) ∧ ∀ n ∈ z1, (Lit.int .u8 n).wf = true) (y1 : len1 * 1 ≤ 140737488351232) (w3 : (Lit.int .u8 a3).wf = true) (hG : Go.Proofs.YtkijneohhilboaaDoor.PIT.Tabs w) :
  Calls Tryd.prog 6 #[.int .u16 a0, .slice a1 len1 cap1, .bool a2, .int .u8 a3] w fun e w' => e = .returned (.bool true) ∧ Below w.heap.size w w' := by
 obtain ⟨l1, rfl, hr1, hm1, hw1, hc1⟩ := ReadsInt.ofRowC w1
 obtain ⟨k, h⟩ := P a0 l1 a2 a3 w0 hm1 y1 hw1 w3
 refine (targumlaw6_Int11Sixty.calls k a0 _ _ l1 a2 a3 true w (Kd.C_of_reads (d := (0 : Int)) (h1 := fun _ => rfl) hr1) hc1 hG h).mono ?_
 rintro e w' ⟨rfl, hd⟩
 exact ⟨rfl, hd⟩

end Go.Proofs.YtkijneohhilboaaDoor.PI
