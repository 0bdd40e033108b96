/- Written by this session's own program (xprint, made over the kit's print): Lean functions with the same answers as the Go functions, and the proofs of that. Not trusted: Lean checks it. -/
import Derived.Test.YtkijneohhilboaaDoorPIx0
import Derived.Test.YtkijneohhilboaaDoorPIx1
import Derived.Test.YtkijneohhilboaaDoorPIx3
import Derived.Test.YtkijneohhilboaaDoorPIx4
import Derived.Test.YtkijneohhilboaaDoorPIx8
import Derived.Test.YtkijneohhilboaaDoorXW
namespace Go.Proofs.YtkijneohhilboaaDoor.PI
open Go.Proofs.YtkijneohhilboaaDoor.XW Go.RowKit Go.Proofs.YtkijneohhilboaaDoorW.PrintWords Go.Proofs.YtkijneohhilboaaDoorW.PrintLast Go.Proofs.YtkijneohhilboaaDoorW.PrintMore
attribute [local go_sem] max2_int min2_int max_two min_two max_three min_three max_four min_four   -- for this text's walks alone
set_option linter.unusedVariables false
set_option linter.unusedSimpArgs false

/-! ### targumlaw6_Int11Bases: function 3 -/
mutual
def targumlaw6_Int11Bases.j0 : Nat → Int → Bool → Int → Int → ByteArray → Int → Option (Bool)
 | 0, _, _, _, _, _, _ => none
 | k + 1, x0, x2, x3, x9, x10, x11 => targumlaw6_Int11Bases.l0 k x0 x2 x3 x9 x10 x11 (⟨#[]⟩ : ByteArray) (wrap64 (x0)) 0
def targumlaw6_Int11Bases.l0 : Nat → Int → Bool → Int → Int → ByteArray → Int → ByteArray → Int → Int → Option (Bool)
 | 0, _, _, _, _, _, _, _, _, _ => none
 | k + 1, x0, x2, x3, x9, x10, x11, x12, x13, x14 => if x13 > 0 then (targumlaw6_Int11Bases.j2 k x0 x2 x3 x9 x10 x11 x12 x13 x14 true) else (targumlaw6_Int11Bases.j2 k x0 x2 x3 x9 x10 x11 x12 x13 x14 (x14 == 0))
def targumlaw6_Int11Bases.j2 : Nat → Int → Bool → Int → Int → ByteArray → Int → ByteArray → Int → Int → Bool → Option (Bool)
 | 0, _, _, _, _, _, _, _, _, _, _ => none
 | k + 1, x0, x2, x3, x9, x10, x11, x12, x13, x14, x38 => if x38 = true then (if x14 > 0 then (if x14 = (wrap64 (Int.tmod x3 12)) then (if 1 + x12.size ≤ 9223372036854775807 then (if x9 = 0 then (none) else (if 0 ≤ (Int.tmod x13 x9) then (if (Int.tmod x13 x9) ≤ (wrap64 ((Int.tmod x13 x9) + 1)) then (if (wrap64 ((Int.tmod x13 x9) + 1)) ≤ 16 then (if ((⟨#[48, 49, 50, 51, 52, 53, 54, 55, 56, 57, 97, 98, 99, 100, 101, 102]⟩ : ByteArray).extract ((Int.tmod x13 x9) : Int).toNat ((wrap64 ((Int.tmod x13 x9) + 1)) : Int).toNat).size + ((⟨#[95]⟩ : ByteArray) ++ x12).size ≤ 9223372036854775807 then (targumlaw6_Int11Bases.l0 k x0 x2 x3 x9 x10 x11 (((⟨#[48, 49, 50, 51, 52, 53, 54, 55, 56, 57, 97, 98, 99, 100, 101, 102]⟩ : ByteArray).extract ((Int.tmod x13 x9) : Int).toNat ((wrap64 ((Int.tmod x13 x9) + 1)) : Int).toNat) ++ ((⟨#[95]⟩ : ByteArray) ++ x12)) (wrap64 (Int.tdiv x13 x9)) (wrap64 (x14 + 1))) else (none)) else (none)) else (none)) else (none))) else (none)) else (if x9 = 0 then (none) else (if 0 ≤ (Int.tmod x13 x9) then (if (Int.tmod x13 x9) ≤ (wrap64 ((Int.tmod x13 x9) + 1)) then (if (wrap64 ((Int.tmod x13 x9) + 1)) ≤ 16 then (if ((⟨#[48, 49, 50, 51, 52, 53, 54, 55, 56, 57, 97, 98, 99, 100, 101, 102]⟩ : ByteArray).extract ((Int.tmod x13 x9) : Int).toNat ((wrap64 ((Int.tmod x13 x9) + 1)) : Int).toNat).size + x12.size ≤ 9223372036854775807 then (targumlaw6_Int11Bases.l0 k x0 x2 x3 x9 x10 x11 (((⟨#[48, 49, 50, 51, 52, 53, 54, 55, 56, 57, 97, 98, 99, 100, 101, 102]⟩ : ByteArray).extract ((Int.tmod x13 x9) : Int).toNat ((wrap64 ((Int.tmod x13 x9) + 1)) : Int).toNat) ++ x12) (wrap64 (Int.tdiv x13 x9)) (wrap64 (x14 + 1))) else (none)) else (none)) else (none)) else (none)))) else (if x9 = 0 then (none) else (if 0 ≤ (Int.tmod x13 x9) then (if (Int.tmod x13 x9) ≤ (wrap64 ((Int.tmod x13 x9) + 1)) then (if (wrap64 ((Int.tmod x13 x9) + 1)) ≤ 16 then (if ((⟨#[48, 49, 50, 51, 52, 53, 54, 55, 56, 57, 97, 98, 99, 100, 101, 102]⟩ : ByteArray).extract ((Int.tmod x13 x9) : Int).toNat ((wrap64 ((Int.tmod x13 x9) + 1)) : Int).toNat).size + x12.size ≤ 9223372036854775807 then (targumlaw6_Int11Bases.l0 k x0 x2 x3 x9 x10 x11 (((⟨#[48, 49, 50, 51, 52, 53, 54, 55, 56, 57, 97, 98, 99, 100, 101, 102]⟩ : ByteArray).extract ((Int.tmod x13 x9) : Int).toNat ((wrap64 ((Int.tmod x13 x9) + 1)) : Int).toNat) ++ x12) (wrap64 (Int.tdiv x13 x9)) (wrap64 (x14 + 1))) else (none)) else (none)) else (none)) else (none)))) else (if x9 = 10 then (targumlaw6_Int11Bases.j3 k x0 x2 x10 x11 x12 (x0 == 0)) else (targumlaw6_Int11Bases.j3 k x0 x2 x10 x11 x12 false))
def targumlaw6_Int11Bases.j3 : Nat → Int → Bool → ByteArray → Int → ByteArray → Bool → Option (Bool)
 | 0, _, _, _, _, _, _ => none
 | k + 1, x0, x2, x10, x11, x12, x70 => if x70 = true then (targumlaw6_Int11Bases.j4 k x0 x2 x10 4 x12) else (targumlaw6_Int11Bases.j4 k x0 x2 x10 x11 x12)
def targumlaw6_Int11Bases.j4 : Nat → Int → Bool → ByteArray → Int → ByteArray → Option (Bool)
 | 0, _, _, _, _, _ => none
 | k + 1, x0, x2, x10, x11, x12 => (targumref4_Text.f k (wrap64 (x0))).bind fun t219 => ((targumref4_Norm.f k x2 t219).bind fun t220 => (if x2 = true then (targumlaw6_Int11Bases.j5 k x0 x10 x11 x12 t220 (⟨#[45]⟩ : ByteArray)) else (targumlaw6_Int11Bases.j5 k x0 x10 x11 x12 t220 (⟨#[43]⟩ : ByteArray))))
def targumlaw6_Int11Bases.j5 : Nat → Int → ByteArray → Int → ByteArray → ByteArray → ByteArray → Option (Bool)
 | 0, _, _, _, _, _, _ => none
 | k + 1, x0, x10, x11, x12, x15, x16 => if x16.size + x10.size ≤ 9223372036854775807 then (if (x16 ++ x10).size + x12.size ≤ 9223372036854775807 then ((int11_Of.f k ((x16 ++ x10) ++ x12)).bind fun bt221 => (if x10.size + x12.size ≤ 9223372036854775807 then ((int11_Of.f k (x10 ++ x12)).bind fun bt223 => (if bt221.2 = true then (if bt223.2 = true then (if bt221.1.toList = x15.toList then ((targumref4_Text.f k (wrap64 (x0))).bind fun t225 => (if bt223.1.toList = t225.toList then ((int11_Form.f (x10 ++ x12)).bind fun t226 => (some (t226 == x11))) else (some false))) else (some false)) else (some false)) else (some false))) else (none))) else (none)) else (none)
end
def targumlaw6_Int11Bases.f (k : Nat) (a0 : Int) (a1 : Int) (a2 : Bool) (a3 : Int) : Option (Bool) := (targumlaw6_known.f k).bind fun t218 => (if t218 = true then (if (Int.tmod a1 4) = 0 then (targumlaw6_Int11Bases.j0 k a0 a2 a3 2 (⟨#[48, 98]⟩ : ByteArray) 1) else (if (Int.tmod a1 4) = 1 then (targumlaw6_Int11Bases.j0 k a0 a2 a3 16 (⟨#[48, 120]⟩ : ByteArray) 2) else (if (Int.tmod a1 4) = 2 then (targumlaw6_Int11Bases.j0 k a0 a2 a3 8 (⟨#[48]⟩ : ByteArray) 3) else (targumlaw6_Int11Bases.j0 k a0 a2 a3 10 (⟨#[]⟩ : ByteArray) 5)))) else (some false))
theorem targumlaw6_Int11Bases.mono_l : ∀ k, (∀ y0 y1 y2 y3 y4 y5, LeO (targumlaw6_Int11Bases.j0 k y0 y1 y2 y3 y4 y5) (targumlaw6_Int11Bases.j0 (k + 1) y0 y1 y2 y3 y4 y5)) ∧ (∀ y0 y1 y2 y3 y4 y5 y6 y7 y8, LeO (targumlaw6_Int11Bases.l0 k y0 y1 y2 y3 y4 y5 y6 y7 y8) (targumlaw6_Int11Bases.l0 (k + 1) y0 y1 y2 y3 y4 y5 y6 y7 y8)) ∧ (∀ y0 y1 y2 y3 y4 y5 y6 y7 y8 y9, LeO (targumlaw6_Int11Bases.j2 k y0 y1 y2 y3 y4 y5 y6 y7 y8 y9) (targumlaw6_Int11Bases.j2 (k + 1) y0 y1 y2 y3 y4 y5 y6 y7 y8 y9)) ∧ (∀ y0 y1 y2 y3 y4 y5, LeO (targumlaw6_Int11Bases.j3 k y0 y1 y2 y3 y4 y5) (targumlaw6_Int11Bases.j3 (k + 1) y0 y1 y2 y3 y4 y5)) ∧ (∀ y0 y1 y2 y3 y4, LeO (targumlaw6_Int11Bases.j4 k y0 y1 y2 y3 y4) (targumlaw6_Int11Bases.j4 (k + 1) y0 y1 y2 y3 y4)) ∧ (∀ y0 y1 y2 y3 y4 y5, LeO (targumlaw6_Int11Bases.j5 k y0 y1 y2 y3 y4 y5) (targumlaw6_Int11Bases.j5 (k + 1) y0 y1 y2 y3 y4 y5))
 | 0 => ⟨fun _ _ _ _ _ _ r h => by simp [targumlaw6_Int11Bases.j0] at h, fun _ _ _ _ _ _ _ _ _ r h => by simp [targumlaw6_Int11Bases.l0] at h, fun _ _ _ _ _ _ _ _ _ _ r h => by simp [targumlaw6_Int11Bases.j2] at h, fun _ _ _ _ _ _ r h => by simp [targumlaw6_Int11Bases.j3] at h, fun _ _ _ _ _ r h => by simp [targumlaw6_Int11Bases.j4] at h, fun _ _ _ _ _ _ r h => by simp [targumlaw6_Int11Bases.j5] at h⟩
 | k + 1 => by
  obtain ⟨ih0, ih1, ih2, ih3, ih4, ih5⟩ := targumlaw6_Int11Bases.mono_l k
  refine ⟨?_, ?_, ?_, ?_, ?_, ?_⟩
  ·intro y0 y1 y2 y3 y4 y5
   unfold targumlaw6_Int11Bases.j0
   repeat' first
   | (with_reducible exact ih0 _ _ _ _ _ _)
   | (with_reducible exact ih1 _ _ _ _ _ _ _ _ _)
   | (with_reducible exact ih2 _ _ _ _ _ _ _ _ _ _)
   | (with_reducible exact ih3 _ _ _ _ _ _)
   | (with_reducible exact ih4 _ _ _ _ _)
   | (with_reducible exact ih5 _ _ _ _ _ _)
   | (with_reducible exact int11_Of.mono _ _)
   | (with_reducible exact targumlaw6_known.mono _)
   | (with_reducible exact targumref4_Norm.mono _ _ _)
   | (with_reducible exact targumref4_Text.mono _ _)
   | (with_reducible exact LeO.refl _)
   | (with_reducible exact LeO.none _)
   | (with_reducible refine LeO.ite ?_ ?_)
   | (with_reducible refine LeO.bind ?_ (fun _ => ?_))
   | exact ih0 _ _ _ _ _ _
   | exact ih1 _ _ _ _ _ _ _ _ _
   | exact ih2 _ _ _ _ _ _ _ _ _ _
   | exact ih3 _ _ _ _ _ _
   | exact ih4 _ _ _ _ _
   | exact ih5 _ _ _ _ _ _
   | exact int11_Of.mono _ _
   | exact targumlaw6_known.mono _
   | exact targumref4_Norm.mono _ _ _
   | exact targumref4_Text.mono _ _
   | exact LeO.none _
   | refine LeO.ite ?_ ?_
   | refine LeO.bind ?_ (fun _ => ?_)
  ·intro y0 y1 y2 y3 y4 y5 y6 y7 y8
   unfold targumlaw6_Int11Bases.l0
   repeat' first
   | (with_reducible exact ih0 _ _ _ _ _ _)
   | (with_reducible exact ih1 _ _ _ _ _ _ _ _ _)
   | (with_reducible exact ih2 _ _ _ _ _ _ _ _ _ _)
   | (with_reducible exact ih3 _ _ _ _ _ _)
   | (with_reducible exact ih4 _ _ _ _ _)
   | (with_reducible exact ih5 _ _ _ _ _ _)
   | (with_reducible exact int11_Of.mono _ _)
   | (with_reducible exact targumlaw6_known.mono _)
   | (with_reducible exact targumref4_Norm.mono _ _ _)
   | (with_reducible exact targumref4_Text.mono _ _)
   | (with_reducible exact LeO.refl _)
   | (with_reducible exact LeO.none _)
   | (with_reducible refine LeO.ite ?_ ?_)
   | (with_reducible refine LeO.bind ?_ (fun _ => ?_))
   | exact ih0 _ _ _ _ _ _
   | exact ih1 _ _ _ _ _ _ _ _ _
   | exact ih2 _ _ _ _ _ _ _ _ _ _
   | exact ih3 _ _ _ _ _ _
   | exact ih4 _ _ _ _ _
   | exact ih5 _ _ _ _ _ _
   | exact int11_Of.mono _ _
   | exact targumlaw6_known.mono _
   | exact targumref4_Norm.mono _ _ _
   | exact targumref4_Text.mono _ _
   | exact LeO.none _
   | refine LeO.ite ?_ ?_
   | refine LeO.bind ?_ (fun _ => ?_)
  ·intro y0 y1 y2 y3 y4 y5 y6 y7 y8 y9
   unfold targumlaw6_Int11Bases.j2
   repeat' first
   | (with_reducible exact ih0 _ _ _ _ _ _)
   | (with_reducible exact ih1 _ _ _ _ _ _ _ _ _)
   | (with_reducible exact ih2 _ _ _ _ _ _ _ _ _ _)
   | (with_reducible exact ih3 _ _ _ _ _ _)
   | (with_reducible exact ih4 _ _ _ _ _)
   | (with_reducible exact ih5 _ _ _ _ _ _)
   | (with_reducible exact int11_Of.mono _ _)
   | (with_reducible exact targumlaw6_known.mono _)
   | (with_reducible exact targumref4_Norm.mono _ _ _)
   | (with_reducible exact targumref4_Text.mono _ _)
   | (with_reducible exact LeO.refl _)
   | (with_reducible exact LeO.none _)
   | (with_reducible refine LeO.ite ?_ ?_)
   | (with_reducible refine LeO.bind ?_ (fun _ => ?_))
   | exact ih0 _ _ _ _ _ _
   | exact ih1 _ _ _ _ _ _ _ _ _
   | exact ih2 _ _ _ _ _ _ _ _ _ _
   | exact ih3 _ _ _ _ _ _
   | exact ih4 _ _ _ _ _
   | exact ih5 _ _ _ _ _ _
   | exact int11_Of.mono _ _
   | exact targumlaw6_known.mono _
   | exact targumref4_Norm.mono _ _ _
   | exact targumref4_Text.mono _ _
   | exact LeO.none _
   | refine LeO.ite ?_ ?_
   | refine LeO.bind ?_ (fun _ => ?_)
  ·intro y0 y1 y2 y3 y4 y5
   unfold targumlaw6_Int11Bases.j3
   repeat' first
   | (with_reducible exact ih0 _ _ _ _ _ _)
   | (with_reducible exact ih1 _ _ _ _ _ _ _ _ _)
   | (with_reducible exact ih2 _ _ _ _ _ _ _ _ _ _)
   | (with_reducible exact ih3 _ _ _ _ _ _)
   | (with_reducible exact ih4 _ _ _ _ _)
   | (with_reducible exact ih5 _ _ _ _ _ _)
   | (with_reducible exact int11_Of.mono _ _)
   | (with_reducible exact targumlaw6_known.mono _)
   | (with_reducible exact targumref4_Norm.mono _ _ _)
   | (with_reducible exact targumref4_Text.mono _ _)
   | (with_reducible exact LeO.refl _)
   | (with_reducible exact LeO.none _)
   | (with_reducible refine LeO.ite ?_ ?_)
   | (with_reducible refine LeO.bind ?_ (fun _ => ?_))
   | exact ih0 _ _ _ _ _ _
   | exact ih1 _ _ _ _ _ _ _ _ _
   | exact ih2 _ _ _ _ _ _ _ _ _ _
   | exact ih3 _ _ _ _ _ _
   | exact ih4 _ _ _ _ _
   | exact ih5 _ _ _ _ _ _
   | exact int11_Of.mono _ _
   | exact targumlaw6_known.mono _
   | exact targumref4_Norm.mono _ _ _
   | exact targumref4_Text.mono _ _
   | exact LeO.none _
   | refine LeO.ite ?_ ?_
   | refine LeO.bind ?_ (fun _ => ?_)
  ·intro y0 y1 y2 y3 y4
   unfold targumlaw6_Int11Bases.j4
   repeat' first
   | (with_reducible exact ih0 _ _ _ _ _ _)
   | (with_reducible exact ih1 _ _ _ _ _ _ _ _ _)
   | (with_reducible exact ih2 _ _ _ _ _ _ _ _ _ _)
   | (with_reducible exact ih3 _ _ _ _ _ _)
   | (with_reducible exact ih4 _ _ _ _ _)
   | (with_reducible exact ih5 _ _ _ _ _ _)
   | (with_reducible exact int11_Of.mono _ _)
   | (with_reducible exact targumlaw6_known.mono _)
   | (with_reducible exact targumref4_Norm.mono _ _ _)
   | (with_reducible exact targumref4_Text.mono _ _)
   | (with_reducible exact LeO.refl _)
   | (with_reducible exact LeO.none _)
   | (with_reducible refine LeO.ite ?_ ?_)
   | (with_reducible refine LeO.bind ?_ (fun _ => ?_))
   | exact ih0 _ _ _ _ _ _
   | exact ih1 _ _ _ _ _ _ _ _ _
   | exact ih2 _ _ _ _ _ _ _ _ _ _
   | exact ih3 _ _ _ _ _ _
   | exact ih4 _ _ _ _ _
   | exact ih5 _ _ _ _ _ _
   | exact int11_Of.mono _ _
   | exact targumlaw6_known.mono _
   | exact targumref4_Norm.mono _ _ _
   | exact targumref4_Text.mono _ _
   | exact LeO.none _
   | refine LeO.ite ?_ ?_
   | refine LeO.bind ?_ (fun _ => ?_)
  ·intro y0 y1 y2 y3 y4 y5
   unfold targumlaw6_Int11Bases.j5
   repeat' first
   | (with_reducible exact ih0 _ _ _ _ _ _)
   | (with_reducible exact ih1 _ _ _ _ _ _ _ _ _)
   | (with_reducible exact ih2 _ _ _ _ _ _ _ _ _ _)
   | (with_reducible exact ih3 _ _ _ _ _ _)
   | (with_reducible exact ih4 _ _ _ _ _)
   | (with_reducible exact ih5 _ _ _ _ _ _)
   | (with_reducible exact int11_Of.mono _ _)
   | (with_reducible exact targumlaw6_known.mono _)
   | (with_reducible exact targumref4_Norm.mono _ _ _)
   | (with_reducible exact targumref4_Text.mono _ _)
   | (with_reducible exact LeO.refl _)
   | (with_reducible exact LeO.none _)
   | (with_reducible refine LeO.ite ?_ ?_)
   | (with_reducible refine LeO.bind ?_ (fun _ => ?_))
   | exact ih0 _ _ _ _ _ _
   | exact ih1 _ _ _ _ _ _ _ _ _
   | exact ih2 _ _ _ _ _ _ _ _ _ _
   | exact ih3 _ _ _ _ _ _
   | exact ih4 _ _ _ _ _
   | exact ih5 _ _ _ _ _ _
   | exact int11_Of.mono _ _
   | exact targumlaw6_known.mono _
   | exact targumref4_Norm.mono _ _ _
   | exact targumref4_Text.mono _ _
   | exact LeO.none _
   | refine LeO.ite ?_ ?_
   | refine LeO.bind ?_ (fun _ => ?_)
theorem targumlaw6_Int11Bases.mono : ∀ a0 a1 a2 a3 k, LeO (targumlaw6_Int11Bases.f k a0 a1 a2 a3) (targumlaw6_Int11Bases.f (k + 1) a0 a1 a2 a3) := by
 intro a0 a1 a2 a3 k
 obtain ⟨ih0, ih1, ih2, ih3, ih4, ih5⟩ := targumlaw6_Int11Bases.mono_l k
 unfold targumlaw6_Int11Bases.f
 repeat' first
   | (with_reducible exact ih0 _ _ _ _ _ _)
   | (with_reducible exact ih1 _ _ _ _ _ _ _ _ _)
   | (with_reducible exact ih2 _ _ _ _ _ _ _ _ _ _)
   | (with_reducible exact ih3 _ _ _ _ _ _)
   | (with_reducible exact ih4 _ _ _ _ _)
   | (with_reducible exact ih5 _ _ _ _ _ _)
   | (with_reducible exact int11_Of.mono _ _)
   | (with_reducible exact targumlaw6_known.mono _)
   | (with_reducible exact targumref4_Norm.mono _ _ _)
   | (with_reducible exact targumref4_Text.mono _ _)
   | (with_reducible exact LeO.refl _)
   | (with_reducible exact LeO.none _)
   | (with_reducible refine LeO.ite ?_ ?_)
   | (with_reducible refine LeO.bind ?_ (fun _ => ?_))
   | exact ih0 _ _ _ _ _ _
   | exact ih1 _ _ _ _ _ _ _ _ _
   | exact ih2 _ _ _ _ _ _ _ _ _ _
   | exact ih3 _ _ _ _ _ _
   | exact ih4 _ _ _ _ _
   | exact ih5 _ _ _ _ _ _
   | exact int11_Of.mono _ _
   | exact targumlaw6_known.mono _
   | exact targumref4_Norm.mono _ _ _
   | exact targumref4_Text.mono _ _
   | exact LeO.none _
   | refine LeO.ite ?_ ?_
   | refine LeO.bind ?_ (fun _ => ?_)
set_option maxHeartbeats 40000000 in
set_option maxRecDepth 100000 in
theorem targumlaw6_Int11Bases.calls (k : Nat) (a0 : Int) (a1 : Int) (a2 : Bool) (a3 : Int) (r : Bool) (w : World) (hG : Go.Proofs.YtkijneohhilboaaDoor.PIT.Tabs w) (h : targumlaw6_Int11Bases.f k a0 a1 a2 a3 = some r) :
  Calls Tryd.prog 3 #[.int .u32 a0, .int .u8 a1, .bool a2, .int .u8 a3] w fun e w' => e = .returned (.bool r) ∧ Below w.heap.size w w' := by
 have HG := Aside0.mk hG
 clear hG
 have HB := Aside0.mk (Below.refl w.heap.size w)
 have H : ((targumlaw6_known.f k).bind fun t218 => (if t218 = true then (if (Int.tmod a1 4) = 0 then (targumlaw6_Int11Bases.j0 k a0 a2 a3 2 (⟨#[48, 98]⟩ : ByteArray) 1) else (if (Int.tmod a1 4) = 1 then (targumlaw6_Int11Bases.j0 k a0 a2 a3 16 (⟨#[48, 120]⟩ : ByteArray) 2) else (if (Int.tmod a1 4) = 2 then (targumlaw6_Int11Bases.j0 k a0 a2 a3 8 (⟨#[48]⟩ : ByteArray) 3) else (targumlaw6_Int11Bases.j0 k a0 a2 a3 10 (⟨#[]⟩ : ByteArray) 5)))) else (some false))) = some r := h
 clear h
 replace H := Option.bind_eq_some_iff.mp H
 obtain ⟨t218, A50, H⟩ := H
 replace H : (if t218 = true then (if (Int.tmod a1 4) = 0 then (targumlaw6_Int11Bases.j0 k a0 a2 a3 2 (⟨#[48, 98]⟩ : ByteArray) 1) else (if (Int.tmod a1 4) = 1 then (targumlaw6_Int11Bases.j0 k a0 a2 a3 16 (⟨#[48, 120]⟩ : ByteArray) 2) else (if (Int.tmod a1 4) = 2 then (targumlaw6_Int11Bases.j0 k a0 a2 a3 8 (⟨#[48]⟩ : ByteArray) 3) else (targumlaw6_Int11Bases.j0 k a0 a2 a3 10 (⟨#[]⟩ : ByteArray) 5)))) else (some false)) = some r := H
 have A5 := Aside0.mk A50
 clear A50
 by_cases c6 : t218 = true
 ·subst c6
  have H1 : (if (Int.tmod a1 4) = 0 then (targumlaw6_Int11Bases.j0 k a0 a2 a3 2 (⟨#[48, 98]⟩ : ByteArray) 1) else (if (Int.tmod a1 4) = 1 then (targumlaw6_Int11Bases.j0 k a0 a2 a3 16 (⟨#[48, 120]⟩ : ByteArray) 2) else (if (Int.tmod a1 4) = 2 then (targumlaw6_Int11Bases.j0 k a0 a2 a3 8 (⟨#[48]⟩ : ByteArray) 3) else (targumlaw6_Int11Bases.j0 k a0 a2 a3 10 (⟨#[]⟩ : ByteArray) 5)))) = some r := by rw [if_pos rfl] at H; exact H
  clear H
  have H := H1
  clear H1
  have HC7 := Aside0.mk H
  clear H
  go_enter Tryd.func3, Tryd.ntmps3
  go_upto_block 0 with (first | (go_at_call 10; (try (rename_i hK_; simp only [List.append] at hK_)); (with_reducible refine (targumlaw6_known.calls k  true _ ?side1 A5.out).mono ?_); (case side1 => exact Go.Proofs.YtkijneohhilboaaDoor.PIT.Tabs_below HG.out bl); rintro e w8 ⟨rfl, hb⟩; have n0_ := Aside0.mk (below_step bl hb); clear HB; have HB := n0_; clear n0_; (try clear hb); (try clear hb2); (try clear hk); (try clear hi)))
  repeat (go_quiet (first | (go_at_call 10; (try (rename_i hK_; simp only [List.append] at hK_)); (with_reducible refine (targumlaw6_known.calls k  true _ ?side1 A5.out).mono ?_); (case side1 => exact Go.Proofs.YtkijneohhilboaaDoor.PIT.Tabs_below HG.out bl); rintro e w8 ⟨rfl, hb⟩; have n0_ := Aside0.mk (below_step bl hb); clear HB; have HB := n0_; clear n0_; (try clear hb); (try clear hb2); (try clear hk); (try clear hi))); go_upto_block 0 with (first | (go_at_call 10; (try (rename_i hK_; simp only [List.append] at hK_)); (with_reducible refine (targumlaw6_known.calls k  true _ ?side1 A5.out).mono ?_); (case side1 => exact Go.Proofs.YtkijneohhilboaaDoor.PIT.Tabs_below HG.out bl); rintro e w8 ⟨rfl, hb⟩; have n0_ := Aside0.mk (below_step bl hb); clear HB; have HB := n0_; clear n0_; (try clear hb); (try clear hb2); (try clear hk); (try clear hi))))
  (try simp only [Act.put, List.setIfInBounds_toArray, List.set_cons_zero, List.set_cons_succ])
  go_cut [9, 10, 11] (fun v9 v10 v11 wc => ∃ (kq : Nat) (x9_6 : Int) (x10_6 : ByteArray) (x11_6 : Int), v9 = .int .i64 x9_6 ∧ v10 = .string x10_6 ∧ v11 = .int .i64 x11_6 ∧ Aside0 (targumlaw6_Int11Bases.j0 kq a0 a2 a3 x9_6 x10_6 x11_6 = some r) ∧ Aside0 (kq ≤ k) ∧ Aside0 (Below w.heap.size w wc))
  case first =>
   have H := HC7.out
   clear HC7
   by_cases c9 : (Int.tmod a1 4) = 0
   ·rw [if_pos c9] at H
    have c9b0 : ((Int.tmod a1 4) == 0) = true := beq_iff_eq.mpr c9
    have c9b1 : ((Int.tmod a1 4) != 0) = false := bne_eq_false_iff_eq.mpr c9
    clear c9
    (first | rw [c9b0] | (simp only [i64_w, i32_w]; rw [c9b0]) | skip)
    have H' := Aside0.mk H
    clear H
    go_wp2
    repeat (go_quiet (fail); try go_wp2)
    go_meet
    case rel => exact ⟨_, (2), ((⟨#[48, 98]⟩ : ByteArray)), (1), (by first | rfl | (simp; done) | (simp [*]; done) | (simp [wrap64]; done)), (by first | rfl | (simp; done) | (simp [*]; done) | (simp [wrap64]; done)), (by first | rfl | (simp; done) | (simp [*]; done) | (simp [wrap64]; done)), H', ⟨by first | omega | exact Nat.le_refl _⟩, ⟨bl⟩⟩
   ·rw [if_neg c9] at H
    have c9b0 : ((Int.tmod a1 4) == 0) = false := beq_eq_false_iff_ne.mpr c9
    have c9b1 : ((Int.tmod a1 4) != 0) = true := bne_iff_ne.mpr c9
    (first | rw [c9b0] | (simp only [i64_w, i32_w]; rw [c9b0]) | skip)
    by_cases c10 : (Int.tmod a1 4) = 1
    ·rw [if_pos c10] at H
     have c10b0 : ((Int.tmod a1 4) == 1) = true := beq_iff_eq.mpr c10
     have c10b1 : ((Int.tmod a1 4) != 1) = false := bne_eq_false_iff_eq.mpr c10
     clear c10
     have H' := Aside0.mk H
     clear H
     go_wp2
     repeat (go_quiet (fail); try go_wp2)
     go_meet
     case rel => exact ⟨_, (16), ((⟨#[48, 120]⟩ : ByteArray)), (2), (by first | rfl | (simp; done) | (simp [*]; done) | (simp [wrap64]; done)), (by first | rfl | (simp; done) | (simp [*]; done) | (simp [wrap64]; done)), (by first | rfl | (simp; done) | (simp [*]; done) | (simp [wrap64]; done)), H', ⟨by first | omega | exact Nat.le_refl _⟩, ⟨bl⟩⟩
    ·rw [if_neg c10] at H
     have c10b0 : ((Int.tmod a1 4) == 1) = false := beq_eq_false_iff_ne.mpr c10
     have c10b1 : ((Int.tmod a1 4) != 1) = true := bne_iff_ne.mpr c10
     by_cases c11 : (Int.tmod a1 4) = 2
     ·rw [if_pos c11] at H
      have c11b0 : ((Int.tmod a1 4) == 2) = true := beq_iff_eq.mpr c11
      have c11b1 : ((Int.tmod a1 4) != 2) = false := bne_eq_false_iff_eq.mpr c11
      clear c11
      have H' := Aside0.mk H
      clear H
      go_wp2
      repeat (go_quiet (fail); try go_wp2)
      go_meet
      case rel => exact ⟨_, (8), ((⟨#[48]⟩ : ByteArray)), (3), (by first | rfl | (simp; done) | (simp [*]; done) | (simp [wrap64]; done)), (by first | rfl | (simp; done) | (simp [*]; done) | (simp [wrap64]; done)), (by first | rfl | (simp; done) | (simp [*]; done) | (simp [wrap64]; done)), H', ⟨by first | omega | exact Nat.le_refl _⟩, ⟨bl⟩⟩
     ·rw [if_neg c11] at H
      have c11b0 : ((Int.tmod a1 4) == 2) = false := beq_eq_false_iff_ne.mpr c11
      have c11b1 : ((Int.tmod a1 4) != 2) = true := bne_iff_ne.mpr c11
      have H' := Aside0.mk H
      clear H
      go_wp2
      repeat (go_quiet (fail); try go_wp2)
      go_meet
      case rel => exact ⟨_, (10), ((⟨#[]⟩ : ByteArray)), (5), (by first | rfl | (simp; done) | (simp [*]; done) | (simp [wrap64]; done)), (by first | rfl | (simp; done) | (simp [*]; done) | (simp [wrap64]; done)), (by first | rfl | (simp; done) | (simp [*]; done) | (simp [wrap64]; done)), H', ⟨by first | omega | exact Nat.le_refl _⟩, ⟨bl⟩⟩
  case rest =>
   clear HC7
   try clear c1; try clear p2; try clear c3; try clear c6; try clear c9; try clear c9b0; try clear c9b1; try clear c10; try clear c10b0; try clear c10b1; try clear c11; try clear c11b0; try clear c11b1
   obtain ⟨kq, x9_6, x10_6, x11_6, rfl, rfl, rfl, HA, HJ6, HB⟩ := hcut
   cases kq with
   | zero => exact absurd HA.out (by simp [targumlaw6_Int11Bases.j0])
   | succ kj6 =>
    have H := HA.out
    clear HA
    simp only [targumlaw6_Int11Bases.j0] at H
    have H' := Aside0.mk H
    clear H
    go_wp2
    repeat (go_quiet (fail); try go_wp2)
    go_loopg [12, 13, 14] kj6 (fun kq v12 v13 v14 w' => ∃ (x12_2 : ByteArray) (x13_2 : Int) (x14_2 : Int), v12 = .string x12_2 ∧ v13 = .int .i64 x13_2 ∧ v14 = .int .i64 x14_2 ∧ Aside0 (targumlaw6_Int11Bases.l0 kq a0 a2 a3 x9_6 x10_6 x11_6 x12_2 x13_2 x14_2 = some r) ∧ Aside0 (kq ≤ kj6) ∧ Aside0 (Below w.heap.size w w'))
    case atStart => exact ⟨((⟨#[]⟩ : ByteArray)), (wrap64 (a0)), (0), (by first | rfl | (simp; done) | (simp [*]; done) | (simp [wrap64]; done)), (by first | rfl | (simp; done) | (simp [*]; done) | (simp [wrap64]; done)), (by first | rfl | (simp; done) | (simp [*]; done) | (simp [wrap64]; done)), H', ⟨Nat.le_refl _⟩, ⟨bl⟩⟩
    case round =>
     clear H'
     try clear c1; try clear p2; try clear c3; try clear c6; try clear p6; try clear c9; try clear c9b0; try clear c9b1; try clear c10; try clear c10b0; try clear c10b1; try clear c11; try clear c11b0; try clear c11b1; try clear p2
     obtain ⟨x12_2, x13_2, x14_2, rfl, rfl, rfl, HA, HK2, HB⟩ := hrel
     cases gk with
     | zero => exact absurd HA.out (by simp [targumlaw6_Int11Bases.l0])
     | succ k2 =>
      have H := HA.out
      clear HA
      simp only [targumlaw6_Int11Bases.l0] at H
      have HC12 := Aside0.mk H
      clear H
      go_upto_region 14 with (fail)
      repeat (go_quiet (fail); go_upto_region 14 with (fail))
      go_cut [38] (fun v38 wc => ∃ (kq : Nat) (x38_11 : Bool), v38 = .bool x38_11 ∧ Aside0 (targumlaw6_Int11Bases.j2 kq a0 a2 a3 x9_6 x10_6 x11_6 x12_2 x13_2 x14_2 x38_11 = some r) ∧ Aside0 (kq ≤ k2) ∧ Aside0 (Below w.heap.size w wc))
      case first =>
       have H := HC12.out
       clear HC12
       by_cases c13 : x13_2 > 0
       ·rw [if_pos c13] at H
        have c13b0 : decide (0 < x13_2) = true := decide_eq_true c13
        clear c13
        (first | rw [c13b0] | (simp only [i64_w, i32_w]; rw [c13b0]) | skip)
        have H' := Aside0.mk H
        clear H
        go_wp2
        repeat (go_quiet (fail); try go_wp2)
        go_meet
        case rel => exact ⟨_, (true), (by first | rfl | (simp; done) | (simp [*]; done) | (simp [wrap64]; done)), H', ⟨by have := HJ6.out; have := HK2.out; first | omega | exact Nat.le_refl _⟩, ⟨bl⟩⟩
       ·rw [if_neg c13] at H
        have c13b0 : decide (0 < x13_2) = false := decide_eq_false c13
        clear c13
        (first | rw [c13b0] | (simp only [i64_w, i32_w]; rw [c13b0]) | skip)
        have H' := Aside0.mk H
        clear H
        go_wp2
        repeat (go_quiet (fail); try go_wp2)
        go_meet
        case rel => exact ⟨_, ((x14_2 == 0)), (by first | rfl | (simp; done) | (simp [*]; done) | (simp [wrap64]; done)), H', ⟨by have := HJ6.out; have := HK2.out; first | omega | exact Nat.le_refl _⟩, ⟨bl⟩⟩
      case rest =>
       clear HC12
       try clear c1; try clear p2; try clear c3; try clear c6; try clear p6; try clear c9; try clear c9b0; try clear c9b1; try clear c10; try clear c10b0; try clear c10b1; try clear c11; try clear c11b0; try clear c11b1; try clear c13; try clear c13b0; try clear p2; try clear p6
       obtain ⟨kq, x38_11, rfl, HA, HJ11, HB⟩ := hcut
       cases kq with
       | zero => exact absurd HA.out (by simp [targumlaw6_Int11Bases.j2])
       | succ kj11 =>
        have H := HA.out
        clear HA
        simp only [targumlaw6_Int11Bases.j2] at H
        by_cases c14 : x38_11 = true
        ·subst c14
         have H1 : (if x14_2 > 0 then (if x14_2 = (wrap64 (Int.tmod a3 12)) then (if 1 + x12_2.size ≤ 9223372036854775807 then (if x9_6 = 0 then (none) else (if 0 ≤ (Int.tmod x13_2 x9_6) then (if (Int.tmod x13_2 x9_6) ≤ (wrap64 ((Int.tmod x13_2 x9_6) + 1)) then (if (wrap64 ((Int.tmod x13_2 x9_6) + 1)) ≤ 16 then (if ((⟨#[48, 49, 50, 51, 52, 53, 54, 55, 56, 57, 97, 98, 99, 100, 101, 102]⟩ : ByteArray).extract ((Int.tmod x13_2 x9_6) : Int).toNat ((wrap64 ((Int.tmod x13_2 x9_6) + 1)) : Int).toNat).size + ((⟨#[95]⟩ : ByteArray) ++ x12_2).size ≤ 9223372036854775807 then (targumlaw6_Int11Bases.l0 kj11 a0 a2 a3 x9_6 x10_6 x11_6 (((⟨#[48, 49, 50, 51, 52, 53, 54, 55, 56, 57, 97, 98, 99, 100, 101, 102]⟩ : ByteArray).extract ((Int.tmod x13_2 x9_6) : Int).toNat ((wrap64 ((Int.tmod x13_2 x9_6) + 1)) : Int).toNat) ++ ((⟨#[95]⟩ : ByteArray) ++ x12_2)) (wrap64 (Int.tdiv x13_2 x9_6)) (wrap64 (x14_2 + 1))) else (none)) else (none)) else (none)) else (none))) else (none)) else (if x9_6 = 0 then (none) else (if 0 ≤ (Int.tmod x13_2 x9_6) then (if (Int.tmod x13_2 x9_6) ≤ (wrap64 ((Int.tmod x13_2 x9_6) + 1)) then (if (wrap64 ((Int.tmod x13_2 x9_6) + 1)) ≤ 16 then (if ((⟨#[48, 49, 50, 51, 52, 53, 54, 55, 56, 57, 97, 98, 99, 100, 101, 102]⟩ : ByteArray).extract ((Int.tmod x13_2 x9_6) : Int).toNat ((wrap64 ((Int.tmod x13_2 x9_6) + 1)) : Int).toNat).size + x12_2.size ≤ 9223372036854775807 then (targumlaw6_Int11Bases.l0 kj11 a0 a2 a3 x9_6 x10_6 x11_6 (((⟨#[48, 49, 50, 51, 52, 53, 54, 55, 56, 57, 97, 98, 99, 100, 101, 102]⟩ : ByteArray).extract ((Int.tmod x13_2 x9_6) : Int).toNat ((wrap64 ((Int.tmod x13_2 x9_6) + 1)) : Int).toNat) ++ x12_2) (wrap64 (Int.tdiv x13_2 x9_6)) (wrap64 (x14_2 + 1))) else (none)) else (none)) else (none)) else (none)))) else (if x9_6 = 0 then (none) else (if 0 ≤ (Int.tmod x13_2 x9_6) then (if (Int.tmod x13_2 x9_6) ≤ (wrap64 ((Int.tmod x13_2 x9_6) + 1)) then (if (wrap64 ((Int.tmod x13_2 x9_6) + 1)) ≤ 16 then (if ((⟨#[48, 49, 50, 51, 52, 53, 54, 55, 56, 57, 97, 98, 99, 100, 101, 102]⟩ : ByteArray).extract ((Int.tmod x13_2 x9_6) : Int).toNat ((wrap64 ((Int.tmod x13_2 x9_6) + 1)) : Int).toNat).size + x12_2.size ≤ 9223372036854775807 then (targumlaw6_Int11Bases.l0 kj11 a0 a2 a3 x9_6 x10_6 x11_6 (((⟨#[48, 49, 50, 51, 52, 53, 54, 55, 56, 57, 97, 98, 99, 100, 101, 102]⟩ : ByteArray).extract ((Int.tmod x13_2 x9_6) : Int).toNat ((wrap64 ((Int.tmod x13_2 x9_6) + 1)) : Int).toNat) ++ x12_2) (wrap64 (Int.tdiv x13_2 x9_6)) (wrap64 (x14_2 + 1))) else (none)) else (none)) else (none)) else (none)))) = some r := by rw [if_pos rfl] at H; exact H
         clear H
         have H := H1
         clear H1
         by_cases c15 : x14_2 > 0
         ·rw [if_pos c15] at H
          have c15b0 : decide (0 < x14_2) = true := decide_eq_true c15
          clear c15
          by_cases c16 : x14_2 = (wrap64 (Int.tmod a3 12))
          ·rw [if_pos c16] at H
           have c16b0 : (x14_2 == (wrap64 (Int.tmod a3 12))) = true := beq_iff_eq.mpr c16
           have c16b1 : (x14_2 != (wrap64 (Int.tmod a3 12))) = false := bne_eq_false_iff_eq.mpr c16
           clear c16
           by_cases c17 : 1 + x12_2.size ≤ 9223372036854775807
           ·rw [if_pos c17] at H
            have c17b0 := eq_true c17
            have c17b1 : decide (1 + x12_2.size ≤ 9223372036854775807) = true := decide_eq_true c17
            try have c17b2 : (9223372036854775807 < 1 + x12_2.size) = False := eq_false (Nat.not_lt.2 c17)
            by_cases c18 : x9_6 = 0
            ·rw [if_pos c18] at H
             exact absurd H (by simp)
            ·rw [if_neg c18] at H
             have c18b0 : (x9_6 == 0) = false := beq_eq_false_iff_ne.mpr c18
             have c18b1 : (x9_6 != 0) = true := bne_iff_ne.mpr c18
             obtain ⟨ji19, hji19⟩ : ∃ j_ : Int, (Int.tmod x13_2 x9_6) = j_ := ⟨_, rfl⟩
             replace H : (if 0 ≤ (ji19) then (if (ji19) ≤ (wrap64 ((ji19) + 1)) then (if (wrap64 ((ji19) + 1)) ≤ 16 then (if ((⟨#[48, 49, 50, 51, 52, 53, 54, 55, 56, 57, 97, 98, 99, 100, 101, 102]⟩ : ByteArray).extract ((ji19) : Int).toNat ((wrap64 ((ji19) + 1)) : Int).toNat).size + ((⟨#[95]⟩ : ByteArray) ++ x12_2).size ≤ 9223372036854775807 then (targumlaw6_Int11Bases.l0 kj11 a0 a2 a3 x9_6 x10_6 x11_6 (((⟨#[48, 49, 50, 51, 52, 53, 54, 55, 56, 57, 97, 98, 99, 100, 101, 102]⟩ : ByteArray).extract ((ji19) : Int).toNat ((wrap64 ((ji19) + 1)) : Int).toNat) ++ ((⟨#[95]⟩ : ByteArray) ++ x12_2)) (wrap64 (Int.tdiv x13_2 x9_6)) (wrap64 (x14_2 + 1))) else (none)) else (none)) else (none)) else (none)) = some r := by first | (rw [hji19] at H; exact H) | (simp only [hji19] at H ⊢; exact H)
             by_cases c20 : 0 ≤ (ji19)
             ·rw [if_pos c20] at H
              have c20b0 := eq_true c20
              have c20b1 : decide (0 ≤ (ji19)) = true := decide_eq_true c20
              clear c20
              by_cases c21 : (ji19) ≤ (wrap64 ((ji19) + 1))
              ·rw [if_pos c21] at H
               have c21b0 := eq_true c21
               have c21b1 : decide ((ji19) ≤ (wrap64 ((ji19) + 1))) = true := decide_eq_true c21
               by_cases c22 : (wrap64 ((ji19) + 1)) ≤ 16
               ·rw [if_pos c22] at H
                have c22b0 := eq_true c22
                have c22b1 : decide ((wrap64 ((ji19) + 1)) ≤ 16) = true := decide_eq_true c22
                by_cases c23 : ((⟨#[48, 49, 50, 51, 52, 53, 54, 55, 56, 57, 97, 98, 99, 100, 101, 102]⟩ : ByteArray).extract ((ji19) : Int).toNat ((wrap64 ((ji19) + 1)) : Int).toNat).size + ((⟨#[95]⟩ : ByteArray) ++ x12_2).size ≤ 9223372036854775807
                ·rw [if_pos c23] at H
                 have c23b0 := eq_true c23
                 have c23b1 : decide (((⟨#[48, 49, 50, 51, 52, 53, 54, 55, 56, 57, 97, 98, 99, 100, 101, 102]⟩ : ByteArray).extract ((ji19) : Int).toNat ((wrap64 ((ji19) + 1)) : Int).toNat).size + ((⟨#[95]⟩ : ByteArray) ++ x12_2).size ≤ 9223372036854775807) = true := decide_eq_true c23
                 try have c23b2 : (9223372036854775807 < ((⟨#[48, 49, 50, 51, 52, 53, 54, 55, 56, 57, 97, 98, 99, 100, 101, 102]⟩ : ByteArray).extract ((ji19) : Int).toNat ((wrap64 ((ji19) + 1)) : Int).toNat).size + ((⟨#[95]⟩ : ByteArray) ++ x12_2).size) = False := eq_false (Nat.not_lt.2 c23)
                 try have c23b3 : (9223372036854775807 < (⟨#[48, 49, 50, 51, 52, 53, 54, 55, 56, 57, 97, 98, 99, 100, 101, 102]⟩ : ByteArray).extract ((ji19) : Int).toNat ((wrap64 ((ji19) + 1)) : Int).toNat.size + (1 + x12_2.size)) = False := eq_false (Nat.not_lt.2 (by have z_ := c23; simp only [ByteArray.size_append, ByteArray.size_extract, Nat.min_self] at z_; exact z_))
                 have H' := Aside0.mk H
                 clear H
                 go_wp2
                 repeat (go_quiet (fail); try go_wp2)
                 go_roundg kj11
                 case measure => have := HJ6.out; have := HK2.out; have := HJ11.out; omega
                 case rel => exact ⟨(((⟨#[48, 49, 50, 51, 52, 53, 54, 55, 56, 57, 97, 98, 99, 100, 101, 102]⟩ : ByteArray).extract ((ji19) : Int).toNat ((wrap64 ((ji19) + 1)) : Int).toNat) ++ ((⟨#[95]⟩ : ByteArray) ++ x12_2)), (wrap64 (Int.tdiv x13_2 x9_6)), (wrap64 (x14_2 + 1)), (by first | rfl | (simp; done) | (simp only [← hji19] <;> (first | rfl | simp)) | (simp [*]; done)), (by first | rfl | (simp; done) | (simp [*]; done) | (simp [wrap64]; done)), (by first | rfl | (simp; done) | (simp [*]; done) | (simp [wrap64]; done)), H', ⟨by have := HJ6.out; have := HK2.out; have := HJ11.out; omega⟩, ⟨bl⟩⟩
                ·rw [if_neg c23] at H
                 exact absurd H (by simp)
               ·rw [if_neg c22] at H
                exact absurd H (by simp)
              ·rw [if_neg c21] at H
               exact absurd H (by simp)
             ·rw [if_neg c20] at H
              exact absurd H (by simp)
           ·rw [if_neg c17] at H
            exact absurd H (by simp)
          ·rw [if_neg c16] at H
           have c16b0 : (x14_2 == (wrap64 (Int.tmod a3 12))) = false := beq_eq_false_iff_ne.mpr c16
           have c16b1 : (x14_2 != (wrap64 (Int.tmod a3 12))) = true := bne_iff_ne.mpr c16
           by_cases c24 : x9_6 = 0
           ·rw [if_pos c24] at H
            exact absurd H (by simp)
           ·rw [if_neg c24] at H
            have c24b0 : (x9_6 == 0) = false := beq_eq_false_iff_ne.mpr c24
            have c24b1 : (x9_6 != 0) = true := bne_iff_ne.mpr c24
            obtain ⟨ji25, hji25⟩ : ∃ j_ : Int, (Int.tmod x13_2 x9_6) = j_ := ⟨_, rfl⟩
            replace H : (if 0 ≤ (ji25) then (if (ji25) ≤ (wrap64 ((ji25) + 1)) then (if (wrap64 ((ji25) + 1)) ≤ 16 then (if ((⟨#[48, 49, 50, 51, 52, 53, 54, 55, 56, 57, 97, 98, 99, 100, 101, 102]⟩ : ByteArray).extract ((ji25) : Int).toNat ((wrap64 ((ji25) + 1)) : Int).toNat).size + x12_2.size ≤ 9223372036854775807 then (targumlaw6_Int11Bases.l0 kj11 a0 a2 a3 x9_6 x10_6 x11_6 (((⟨#[48, 49, 50, 51, 52, 53, 54, 55, 56, 57, 97, 98, 99, 100, 101, 102]⟩ : ByteArray).extract ((ji25) : Int).toNat ((wrap64 ((ji25) + 1)) : Int).toNat) ++ x12_2) (wrap64 (Int.tdiv x13_2 x9_6)) (wrap64 (x14_2 + 1))) else (none)) else (none)) else (none)) else (none)) = some r := by first | (rw [hji25] at H; exact H) | (simp only [hji25] at H ⊢; exact H)
            by_cases c26 : 0 ≤ (ji25)
            ·rw [if_pos c26] at H
             have c26b0 := eq_true c26
             have c26b1 : decide (0 ≤ (ji25)) = true := decide_eq_true c26
             clear c26
             by_cases c27 : (ji25) ≤ (wrap64 ((ji25) + 1))
             ·rw [if_pos c27] at H
              have c27b0 := eq_true c27
              have c27b1 : decide ((ji25) ≤ (wrap64 ((ji25) + 1))) = true := decide_eq_true c27
              by_cases c28 : (wrap64 ((ji25) + 1)) ≤ 16
              ·rw [if_pos c28] at H
               have c28b0 := eq_true c28
               have c28b1 : decide ((wrap64 ((ji25) + 1)) ≤ 16) = true := decide_eq_true c28
               by_cases c29 : ((⟨#[48, 49, 50, 51, 52, 53, 54, 55, 56, 57, 97, 98, 99, 100, 101, 102]⟩ : ByteArray).extract ((ji25) : Int).toNat ((wrap64 ((ji25) + 1)) : Int).toNat).size + x12_2.size ≤ 9223372036854775807
               ·rw [if_pos c29] at H
                have c29b0 := eq_true c29
                have c29b1 : decide (((⟨#[48, 49, 50, 51, 52, 53, 54, 55, 56, 57, 97, 98, 99, 100, 101, 102]⟩ : ByteArray).extract ((ji25) : Int).toNat ((wrap64 ((ji25) + 1)) : Int).toNat).size + x12_2.size ≤ 9223372036854775807) = true := decide_eq_true c29
                try have c29b2 : (9223372036854775807 < ((⟨#[48, 49, 50, 51, 52, 53, 54, 55, 56, 57, 97, 98, 99, 100, 101, 102]⟩ : ByteArray).extract ((ji25) : Int).toNat ((wrap64 ((ji25) + 1)) : Int).toNat).size + x12_2.size) = False := eq_false (Nat.not_lt.2 c29)
                have H' := Aside0.mk H
                clear H
                go_wp2
                repeat (go_quiet (fail); try go_wp2)
                go_roundg kj11
                case measure => have := HJ6.out; have := HK2.out; have := HJ11.out; omega
                case rel => exact ⟨(((⟨#[48, 49, 50, 51, 52, 53, 54, 55, 56, 57, 97, 98, 99, 100, 101, 102]⟩ : ByteArray).extract ((ji25) : Int).toNat ((wrap64 ((ji25) + 1)) : Int).toNat) ++ x12_2), (wrap64 (Int.tdiv x13_2 x9_6)), (wrap64 (x14_2 + 1)), (by first | rfl | (simp; done) | (simp only [← hji25] <;> (first | rfl | simp)) | (simp [*]; done)), (by first | rfl | (simp; done) | (simp [*]; done) | (simp [wrap64]; done)), (by first | rfl | (simp; done) | (simp [*]; done) | (simp [wrap64]; done)), H', ⟨by have := HJ6.out; have := HK2.out; have := HJ11.out; omega⟩, ⟨bl⟩⟩
               ·rw [if_neg c29] at H
                exact absurd H (by simp)
              ·rw [if_neg c28] at H
               exact absurd H (by simp)
             ·rw [if_neg c27] at H
              exact absurd H (by simp)
            ·rw [if_neg c26] at H
             exact absurd H (by simp)
         ·rw [if_neg c15] at H
          have c15b0 : decide (0 < x14_2) = false := decide_eq_false c15
          clear c15
          by_cases c30 : x9_6 = 0
          ·rw [if_pos c30] at H
           exact absurd H (by simp)
          ·rw [if_neg c30] at H
           have c30b0 : (x9_6 == 0) = false := beq_eq_false_iff_ne.mpr c30
           have c30b1 : (x9_6 != 0) = true := bne_iff_ne.mpr c30
           obtain ⟨ji31, hji31⟩ : ∃ j_ : Int, (Int.tmod x13_2 x9_6) = j_ := ⟨_, rfl⟩
           replace H : (if 0 ≤ (ji31) then (if (ji31) ≤ (wrap64 ((ji31) + 1)) then (if (wrap64 ((ji31) + 1)) ≤ 16 then (if ((⟨#[48, 49, 50, 51, 52, 53, 54, 55, 56, 57, 97, 98, 99, 100, 101, 102]⟩ : ByteArray).extract ((ji31) : Int).toNat ((wrap64 ((ji31) + 1)) : Int).toNat).size + x12_2.size ≤ 9223372036854775807 then (targumlaw6_Int11Bases.l0 kj11 a0 a2 a3 x9_6 x10_6 x11_6 (((⟨#[48, 49, 50, 51, 52, 53, 54, 55, 56, 57, 97, 98, 99, 100, 101, 102]⟩ : ByteArray).extract ((ji31) : Int).toNat ((wrap64 ((ji31) + 1)) : Int).toNat) ++ x12_2) (wrap64 (Int.tdiv x13_2 x9_6)) (wrap64 (x14_2 + 1))) else (none)) else (none)) else (none)) else (none)) = some r := by first | (rw [hji31] at H; exact H) | (simp only [hji31] at H ⊢; exact H)
           by_cases c32 : 0 ≤ (ji31)
           ·rw [if_pos c32] at H
            have c32b0 := eq_true c32
            have c32b1 : decide (0 ≤ (ji31)) = true := decide_eq_true c32
            clear c32
            by_cases c33 : (ji31) ≤ (wrap64 ((ji31) + 1))
            ·rw [if_pos c33] at H
             have c33b0 := eq_true c33
             have c33b1 : decide ((ji31) ≤ (wrap64 ((ji31) + 1))) = true := decide_eq_true c33
             by_cases c34 : (wrap64 ((ji31) + 1)) ≤ 16
             ·rw [if_pos c34] at H
              have c34b0 := eq_true c34
              have c34b1 : decide ((wrap64 ((ji31) + 1)) ≤ 16) = true := decide_eq_true c34
              by_cases c35 : ((⟨#[48, 49, 50, 51, 52, 53, 54, 55, 56, 57, 97, 98, 99, 100, 101, 102]⟩ : ByteArray).extract ((ji31) : Int).toNat ((wrap64 ((ji31) + 1)) : Int).toNat).size + x12_2.size ≤ 9223372036854775807
              ·rw [if_pos c35] at H
               have c35b0 := eq_true c35
               have c35b1 : decide (((⟨#[48, 49, 50, 51, 52, 53, 54, 55, 56, 57, 97, 98, 99, 100, 101, 102]⟩ : ByteArray).extract ((ji31) : Int).toNat ((wrap64 ((ji31) + 1)) : Int).toNat).size + x12_2.size ≤ 9223372036854775807) = true := decide_eq_true c35
               try have c35b2 : (9223372036854775807 < ((⟨#[48, 49, 50, 51, 52, 53, 54, 55, 56, 57, 97, 98, 99, 100, 101, 102]⟩ : ByteArray).extract ((ji31) : Int).toNat ((wrap64 ((ji31) + 1)) : Int).toNat).size + x12_2.size) = False := eq_false (Nat.not_lt.2 c35)
               have H' := Aside0.mk H
               clear H
               go_wp2
               repeat (go_quiet (fail); try go_wp2)
               go_roundg kj11
               case measure => have := HJ6.out; have := HK2.out; have := HJ11.out; omega
               case rel => exact ⟨(((⟨#[48, 49, 50, 51, 52, 53, 54, 55, 56, 57, 97, 98, 99, 100, 101, 102]⟩ : ByteArray).extract ((ji31) : Int).toNat ((wrap64 ((ji31) + 1)) : Int).toNat) ++ x12_2), (wrap64 (Int.tdiv x13_2 x9_6)), (wrap64 (x14_2 + 1)), (by first | rfl | (simp; done) | (simp only [← hji31] <;> (first | rfl | simp)) | (simp [*]; done)), (by first | rfl | (simp; done) | (simp [*]; done) | (simp [wrap64]; done)), (by first | rfl | (simp; done) | (simp [*]; done) | (simp [wrap64]; done)), H', ⟨by have := HJ6.out; have := HK2.out; have := HJ11.out; omega⟩, ⟨bl⟩⟩
              ·rw [if_neg c35] at H
               exact absurd H (by simp)
             ·rw [if_neg c34] at H
              exact absurd H (by simp)
            ·rw [if_neg c33] at H
             exact absurd H (by simp)
           ·rw [if_neg c32] at H
            exact absurd H (by simp)
        ·replace c14 := Bool.eq_false_iff.mpr c14
         subst c14
         have H1 : (if x9_6 = 10 then (targumlaw6_Int11Bases.j3 kj11 a0 a2 x10_6 x11_6 x12_2 (a0 == 0)) else (targumlaw6_Int11Bases.j3 kj11 a0 a2 x10_6 x11_6 x12_2 false)) = some r := by rw [if_neg (show ¬ (false = true) by decide)] at H; exact H
         clear H
         have H := H1
         clear H1
         have HC36 := Aside0.mk H
         clear H
         go_upto_region 20 with (fail)
         repeat (go_quiet (fail); go_upto_region 20 with (fail))
         go_cut [70] (fun v70 wc => ∃ (kq : Nat) (x70_35 : Bool), v70 = .bool x70_35 ∧ Aside0 (targumlaw6_Int11Bases.j3 kq a0 a2 x10_6 x11_6 x12_2 x70_35 = some r) ∧ Aside0 (kq ≤ kj11) ∧ Aside0 (Below w.heap.size w wc))
         case first =>
          have H := HC36.out
          clear HC36
          by_cases c37 : x9_6 = 10
          ·rw [if_pos c37] at H
           have c37b0 : (x9_6 == 10) = true := beq_iff_eq.mpr c37
           have c37b1 : (x9_6 != 10) = false := bne_eq_false_iff_eq.mpr c37
           clear c37
           (first | rw [c37b0] | (simp only [i64_w, i32_w]; rw [c37b0]) | skip)
           have H' := Aside0.mk H
           clear H
           go_wp2
           repeat (go_quiet (fail); try go_wp2)
           go_meet
           case rel => exact ⟨_, ((a0 == 0)), (by first | rfl | (simp; done) | (simp [*]; done) | (simp [wrap64]; done)), H', ⟨by have := HJ6.out; have := HK2.out; have := HJ11.out; first | omega | exact Nat.le_refl _⟩, ⟨bl⟩⟩
          ·rw [if_neg c37] at H
           have c37b0 : (x9_6 == 10) = false := beq_eq_false_iff_ne.mpr c37
           have c37b1 : (x9_6 != 10) = true := bne_iff_ne.mpr c37
           (first | rw [c37b0] | (simp only [i64_w, i32_w]; rw [c37b0]) | skip)
           have H' := Aside0.mk H
           clear H
           go_wp2
           repeat (go_quiet (fail); try go_wp2)
           go_meet
           case rel => exact ⟨_, (false), (by first | rfl | (simp; done) | (simp [*]; done) | (simp [wrap64]; done)), H', ⟨by have := HJ6.out; have := HK2.out; have := HJ11.out; first | omega | exact Nat.le_refl _⟩, ⟨bl⟩⟩
         case rest =>
          clear HC36
          try clear c1; try clear c2; try clear p2; try clear c3; try clear c6; try clear p6; try clear c9; try clear c9b0; try clear c9b1; try clear c10; try clear c10b0; try clear c10b1; try clear c11; try clear c11b0; try clear c11b1; try clear c13; try clear c13b0; try clear c14; try clear c15; try clear c15b0; try clear c16; try clear c16b0; try clear c16b1; try clear c17; try clear c17b0; try clear c17b1; try clear c17b2; try clear c18; try clear c18b0; try clear c18b1; try clear c20; try clear c20b0; try clear c20b1; try clear c21; try clear c21b0; try clear c21b1; try clear c22; try clear c22b0; try clear c22b1; try clear c23; try clear c23b0; try clear c23b1; try clear c23b2; try clear c24; try clear c24b0; try clear c24b1; try clear c26; try clear c26b0; try clear c26b1; try clear c27; try clear c27b0; try clear c27b1; try clear c28; try clear c28b0; try clear c28b1; try clear c29; try clear c29b0; try clear c29b1; try clear c29b2; try clear c30; try clear c30b0; try clear c30b1; try clear c32; try clear c32b0; try clear c32b1; try clear c33; try clear c33b0; try clear c33b1; try clear c34; try clear c34b0; try clear c34b1; try clear c35; try clear c35b0; try clear c35b1; try clear c35b2; try clear c37; try clear c37b0; try clear c37b1; try clear p2; try clear p6
          obtain ⟨kq, x70_35, rfl, HA, HJ35, HB⟩ := hcut
          cases kq with
          | zero => exact absurd HA.out (by simp [targumlaw6_Int11Bases.j3])
          | succ kj35 =>
           have H := HA.out
           clear HA
           simp only [targumlaw6_Int11Bases.j3] at H
           have HC38 := Aside0.mk H
           clear H
           go_upto_if 70 with (fail)
           repeat (go_quiet (fail); go_upto_if 70 with (fail))
           go_cut [11] (fun v11 wc => ∃ (kq : Nat) (x11_37 : Int), v11 = .int .i64 x11_37 ∧ Aside0 (targumlaw6_Int11Bases.j4 kq a0 a2 x10_6 x11_37 x12_2 = some r) ∧ Aside0 (kq ≤ kj35) ∧ Aside0 (Below w.heap.size w wc))
           case first =>
            have H := HC38.out
            clear HC38
            by_cases c39 : x70_35 = true
            ·subst c39
             have H1 : (targumlaw6_Int11Bases.j4 kj35 a0 a2 x10_6 4 x12_2) = some r := by rw [if_pos rfl] at H; exact H
             clear H
             have H := H1
             clear H1
             have H' := Aside0.mk H
             clear H
             go_wp2
             repeat (go_quiet (fail); try go_wp2)
             go_meet
             case rel => exact ⟨_, (4), (by first | rfl | (simp; done) | (simp [*]; done) | (simp [wrap64]; done)), H', ⟨by have := HJ6.out; have := HK2.out; have := HJ11.out; have := HJ35.out; first | omega | exact Nat.le_refl _⟩, ⟨bl⟩⟩
            ·replace c39 := Bool.eq_false_iff.mpr c39
             subst c39
             have H1 : (targumlaw6_Int11Bases.j4 kj35 a0 a2 x10_6 x11_6 x12_2) = some r := by rw [if_neg (show ¬ (false = true) by decide)] at H; exact H
             clear H
             have H := H1
             clear H1
             have H' := Aside0.mk H
             clear H
             go_wp2
             repeat (go_quiet (fail); try go_wp2)
             go_meet
             case rel => exact ⟨_, (x11_6), (by first | rfl | (simp; done) | (simp [*]; done) | (simp [wrap64]; done)), H', ⟨by have := HJ6.out; have := HK2.out; have := HJ11.out; have := HJ35.out; first | omega | exact Nat.le_refl _⟩, ⟨bl⟩⟩
           case rest =>
            clear HC38
            try clear c1; try clear c2; try clear p2; try clear c3; try clear c6; try clear p6; try clear c9; try clear c9b0; try clear c9b1; try clear c10; try clear c10b0; try clear c10b1; try clear c11; try clear c11b0; try clear c11b1; try clear c13; try clear c13b0; try clear c14; try clear c15; try clear c15b0; try clear c16; try clear c16b0; try clear c16b1; try clear c17; try clear c17b0; try clear c17b1; try clear c17b2; try clear c18; try clear c18b0; try clear c18b1; try clear c20; try clear c20b0; try clear c20b1; try clear c21; try clear c21b0; try clear c21b1; try clear c22; try clear c22b0; try clear c22b1; try clear c23; try clear c23b0; try clear c23b1; try clear c23b2; try clear c24; try clear c24b0; try clear c24b1; try clear c26; try clear c26b0; try clear c26b1; try clear c27; try clear c27b0; try clear c27b1; try clear c28; try clear c28b0; try clear c28b1; try clear c29; try clear c29b0; try clear c29b1; try clear c29b2; try clear c30; try clear c30b0; try clear c30b1; try clear c32; try clear c32b0; try clear c32b1; try clear c33; try clear c33b0; try clear c33b1; try clear c34; try clear c34b0; try clear c34b1; try clear c35; try clear c35b0; try clear c35b1; try clear c35b2; try clear c37; try clear c37b0; try clear c37b1; try clear c39; try clear p2; try clear p6
            obtain ⟨kq, x11_37, rfl, HA, HJ37, HB⟩ := hcut
            cases kq with
            | zero => exact absurd HA.out (by simp [targumlaw6_Int11Bases.j4])
            | succ kj37 =>
             have H := HA.out
             clear HA
             simp only [targumlaw6_Int11Bases.j4] at H
             replace H := Option.bind_eq_some_iff.mp H
             obtain ⟨t219, A400, H⟩ := H
             replace H : ((targumref4_Norm.f kj37 a2 t219).bind fun t220 => (if a2 = true then (targumlaw6_Int11Bases.j5 kj37 a0 x10_6 x11_37 x12_2 t220 (⟨#[45]⟩ : ByteArray)) else (targumlaw6_Int11Bases.j5 kj37 a0 x10_6 x11_37 x12_2 t220 (⟨#[43]⟩ : ByteArray)))) = some r := H
             have A40 := Aside0.mk A400
             clear A400
             replace H := Option.bind_eq_some_iff.mp H
             obtain ⟨t220, A410, H⟩ := H
             replace H : (if a2 = true then (targumlaw6_Int11Bases.j5 kj37 a0 x10_6 x11_37 x12_2 t220 (⟨#[45]⟩ : ByteArray)) else (targumlaw6_Int11Bases.j5 kj37 a0 x10_6 x11_37 x12_2 t220 (⟨#[43]⟩ : ByteArray))) = some r := H
             have A41 := Aside0.mk A410
             clear A410
             have HC42 := Aside0.mk H
             clear H
             go_upto_if 76 with (first | (go_at_call 12; (try (rename_i hK_; simp only [List.append] at hK_)); (with_reducible refine (targumref4_Text.calls kj37 (wrap64 (a0)) t219 _ A40.out).mono ?_); rintro e w43 ⟨rfl, hb⟩; have n0_ := Aside0.mk (below_step bl hb); clear HB; have HB := n0_; clear n0_; (try clear hb); (try clear hb2); (try clear hk); (try clear hi)) | (go_at_call 11; (try (rename_i hK_; simp only [List.append] at hK_)); (with_reducible refine (targumref4_Norm.calls kj37 a2 t219 t220 _ A41.out).mono ?_); rintro e w' ⟨rfl, ⟨nd, rfl⟩⟩; (try first | exact ⟨rfl, _, World.drewN_drewN _ _ _⟩ | exact ⟨rfl, _, Eq.trans (World.drewN_drewN _ _ _) (congrArg (World.drewN _) (Nat.add_assoc _ _ _))⟩)))
             repeat (go_quiet (first | (go_at_call 12; (try (rename_i hK_; simp only [List.append] at hK_)); (with_reducible refine (targumref4_Text.calls kj37 (wrap64 (a0)) t219 _ A40.out).mono ?_); rintro e w43 ⟨rfl, hb⟩; have n0_ := Aside0.mk (below_step bl hb); clear HB; have HB := n0_; clear n0_; (try clear hb); (try clear hb2); (try clear hk); (try clear hi)) | (go_at_call 11; (try (rename_i hK_; simp only [List.append] at hK_)); (with_reducible refine (targumref4_Norm.calls kj37 a2 t219 t220 _ A41.out).mono ?_); rintro e w' ⟨rfl, ⟨nd, rfl⟩⟩; (try first | exact ⟨rfl, _, World.drewN_drewN _ _ _⟩ | exact ⟨rfl, _, Eq.trans (World.drewN_drewN _ _ _) (congrArg (World.drewN _) (Nat.add_assoc _ _ _))⟩))); go_upto_if 76 with (first | (go_at_call 12; (try (rename_i hK_; simp only [List.append] at hK_)); (with_reducible refine (targumref4_Text.calls kj37 (wrap64 (a0)) t219 _ A40.out).mono ?_); rintro e w43 ⟨rfl, hb⟩; have n0_ := Aside0.mk (below_step bl hb); clear HB; have HB := n0_; clear n0_; (try clear hb); (try clear hb2); (try clear hk); (try clear hi)) | (go_at_call 11; (try (rename_i hK_; simp only [List.append] at hK_)); (with_reducible refine (targumref4_Norm.calls kj37 a2 t219 t220 _ A41.out).mono ?_); rintro e w' ⟨rfl, ⟨nd, rfl⟩⟩; (try first | exact ⟨rfl, _, World.drewN_drewN _ _ _⟩ | exact ⟨rfl, _, Eq.trans (World.drewN_drewN _ _ _) (congrArg (World.drewN _) (Nat.add_assoc _ _ _))⟩))))
             (try simp only [Act.put, List.setIfInBounds_toArray, List.set_cons_zero, List.set_cons_succ])
             go_cut [16] (fun v16 wc => ∃ (kq : Nat) (x16_41 : ByteArray), v16 = .string x16_41 ∧ Aside0 (targumlaw6_Int11Bases.j5 kq a0 x10_6 x11_37 x12_2 t220 x16_41 = some r) ∧ Aside0 (kq ≤ kj37) ∧ Aside0 (Below w.heap.size w wc))
             case first =>
              have H := HC42.out
              clear HC42
              by_cases c44 : a2 = true
              ·subst c44
               have H1 : (targumlaw6_Int11Bases.j5 kj37 a0 x10_6 x11_37 x12_2 t220 (⟨#[45]⟩ : ByteArray)) = some r := by rw [if_pos rfl] at H; exact H
               clear H
               have H := H1
               clear H1
               have H' := Aside0.mk H
               clear H
               go_wp2
               repeat (go_quiet (fail); try go_wp2)
               go_meet
               case rel => exact ⟨_, ((⟨#[45]⟩ : ByteArray)), (by first | rfl | (simp; done) | (simp [*]; done) | (simp [wrap64]; done)), H', ⟨by have := HJ6.out; have := HK2.out; have := HJ11.out; have := HJ35.out; have := HJ37.out; first | omega | exact Nat.le_refl _⟩, ⟨bl⟩⟩
              ·replace c44 := Bool.eq_false_iff.mpr c44
               subst c44
               have H1 : (targumlaw6_Int11Bases.j5 kj37 a0 x10_6 x11_37 x12_2 t220 (⟨#[43]⟩ : ByteArray)) = some r := by rw [if_neg (show ¬ (false = true) by decide)] at H; exact H
               clear H
               have H := H1
               clear H1
               have H' := Aside0.mk H
               clear H
               go_wp2
               repeat (go_quiet (fail); try go_wp2)
               go_meet
               case rel => exact ⟨_, ((⟨#[43]⟩ : ByteArray)), (by first | rfl | (simp; done) | (simp [*]; done) | (simp [wrap64]; done)), H', ⟨by have := HJ6.out; have := HK2.out; have := HJ11.out; have := HJ35.out; have := HJ37.out; first | omega | exact Nat.le_refl _⟩, ⟨bl⟩⟩
             case rest =>
              clear HC42
              try clear c1; try clear c2; try clear p2; try clear c3; try clear c4; try clear c6; try clear p6; try clear c9; try clear c9b0; try clear c9b1; try clear c10; try clear c10b0; try clear c10b1; try clear c11; try clear c11b0; try clear c11b1; try clear c13; try clear c13b0; try clear c14; try clear c15; try clear c15b0; try clear c16; try clear c16b0; try clear c16b1; try clear c17; try clear c17b0; try clear c17b1; try clear c17b2; try clear c18; try clear c18b0; try clear c18b1; try clear c20; try clear c20b0; try clear c20b1; try clear c21; try clear c21b0; try clear c21b1; try clear c22; try clear c22b0; try clear c22b1; try clear c23; try clear c23b0; try clear c23b1; try clear c23b2; try clear c24; try clear c24b0; try clear c24b1; try clear c26; try clear c26b0; try clear c26b1; try clear c27; try clear c27b0; try clear c27b1; try clear c28; try clear c28b0; try clear c28b1; try clear c29; try clear c29b0; try clear c29b1; try clear c29b2; try clear c30; try clear c30b0; try clear c30b1; try clear c32; try clear c32b0; try clear c32b1; try clear c33; try clear c33b0; try clear c33b1; try clear c34; try clear c34b0; try clear c34b1; try clear c35; try clear c35b0; try clear c35b1; try clear c35b2; try clear c37; try clear c37b0; try clear c37b1; try clear c39; try clear c44; try clear p2; try clear p6
              obtain ⟨kq, x16_41, rfl, HA, HJ41, HB⟩ := hcut
              cases kq with
              | zero => exact absurd HA.out (by simp [targumlaw6_Int11Bases.j5])
              | succ kj41 =>
               have H := HA.out
               clear HA
               simp only [targumlaw6_Int11Bases.j5] at H
               by_cases c45 : x16_41.size + x10_6.size ≤ 9223372036854775807
               ·rw [if_pos c45] at H
                have c45b0 := eq_true c45
                have c45b1 : decide (x16_41.size + x10_6.size ≤ 9223372036854775807) = true := decide_eq_true c45
                try have c45b2 : (9223372036854775807 < x16_41.size + x10_6.size) = False := eq_false (Nat.not_lt.2 c45)
                by_cases c46 : (x16_41 ++ x10_6).size + x12_2.size ≤ 9223372036854775807
                ·rw [if_pos c46] at H
                 have c46b0 := eq_true c46
                 have c46b1 : decide ((x16_41 ++ x10_6).size + x12_2.size ≤ 9223372036854775807) = true := decide_eq_true c46
                 try have c46b2 : (9223372036854775807 < (x16_41 ++ x10_6).size + x12_2.size) = False := eq_false (Nat.not_lt.2 c46)
                 try have c46b3 : (9223372036854775807 < x16_41.size + x10_6.size + x12_2.size) = False := eq_false (Nat.not_lt.2 (by have z_ := c46; simp only [ByteArray.size_append, ByteArray.size_extract, Nat.min_self] at z_; exact z_))
                 replace H := Option.bind_eq_some_iff.mp H
                 obtain ⟨⟨t221, t222⟩, A470, H⟩ := H
                 replace H : (if x10_6.size + x12_2.size ≤ 9223372036854775807 then ((int11_Of.f kj41 (x10_6 ++ x12_2)).bind fun bt223 => (if t222 = true then (if bt223.2 = true then (if t221.toList = t220.toList then ((targumref4_Text.f kj41 (wrap64 (a0))).bind fun t225 => (if bt223.1.toList = t225.toList then ((int11_Form.f (x10_6 ++ x12_2)).bind fun t226 => (some (t226 == x11_37))) else (some false))) else (some false)) else (some false)) else (some false))) else (none)) = some r := H
                 have A47 := Aside0.mk A470
                 clear A470
                 by_cases c48 : x10_6.size + x12_2.size ≤ 9223372036854775807
                 ·rw [if_pos c48] at H
                  have c48b0 := eq_true c48
                  have c48b1 : decide (x10_6.size + x12_2.size ≤ 9223372036854775807) = true := decide_eq_true c48
                  try have c48b2 : (9223372036854775807 < x10_6.size + x12_2.size) = False := eq_false (Nat.not_lt.2 c48)
                  replace H := Option.bind_eq_some_iff.mp H
                  obtain ⟨⟨t223, t224⟩, A490, H⟩ := H
                  replace H : (if t222 = true then (if t224 = true then (if t221.toList = t220.toList then ((targumref4_Text.f kj41 (wrap64 (a0))).bind fun t225 => (if t223.toList = t225.toList then ((int11_Form.f (x10_6 ++ x12_2)).bind fun t226 => (some (t226 == x11_37))) else (some false))) else (some false)) else (some false)) else (some false)) = some r := H
                  have A49 := Aside0.mk A490
                  clear A490
                  refine Classical.byCases (p := (t222 = true)) (fun c50 => ?x18) (fun c50 => ?y18)
                  case' x18 =>
                   subst c50
                   have H1 : (if t224 = true then (if t221.toList = t220.toList then ((targumref4_Text.f kj41 (wrap64 (a0))).bind fun t225 => (if t223.toList = t225.toList then ((int11_Form.f (x10_6 ++ x12_2)).bind fun t226 => (some (t226 == x11_37))) else (some false))) else (some false)) else (some false)) = some r := by rw [if_pos rfl] at H; exact H
                   clear H
                   have H := H1
                   clear H1
                   refine Classical.byCases (p := (t224 = true)) (fun c51 => ?x19) (fun c51 => ?y19)
                   case' x19 =>
                    subst c51
                    have H1 : (if t221.toList = t220.toList then ((targumref4_Text.f kj41 (wrap64 (a0))).bind fun t225 => (if t223.toList = t225.toList then ((int11_Form.f (x10_6 ++ x12_2)).bind fun t226 => (some (t226 == x11_37))) else (some false))) else (some false)) = some r := by rw [if_pos rfl] at H; exact H
                    clear H
                    have H := H1
                    clear H1
                    refine Classical.byCases (p := (t221.toList = t220.toList)) (fun c52 => ?x20) (fun c52 => ?y20)
                    case' x20 =>
                     rw [if_pos c52] at H
                     have c52b0 : (t221.toList == t220.toList) = true := beq_iff_eq.mpr c52
                     have c52b1 : (t221.toList != t220.toList) = false := bne_eq_false_iff_eq.mpr c52
                     clear c52
                     replace H := Option.bind_eq_some_iff.mp H
                     obtain ⟨t225, A530, H⟩ := H
                     replace H : (if t223.toList = t225.toList then ((int11_Form.f (x10_6 ++ x12_2)).bind fun t226 => (some (t226 == x11_37))) else (some false)) = some r := H
                     have A53 := Aside0.mk A530
                     clear A530
                     refine Classical.byCases (p := (t223.toList = t225.toList)) (fun c54 => ?x21) (fun c54 => ?y21)
                     case' x21 =>
                      rw [if_pos c54] at H
                      have c54b0 : (t223.toList == t225.toList) = true := beq_iff_eq.mpr c54
                      have c54b1 : (t223.toList != t225.toList) = false := bne_eq_false_iff_eq.mpr c54
                      clear c54
                      replace H := Option.bind_eq_some_iff.mp H
                      obtain ⟨t226, A550, H⟩ := H
                      replace H : (some (t226 == x11_37)) = some r := H
                      have A55 := Aside0.mk A550
                      clear A550
                      obtain rfl := Option.some.inj H
                      go_wp2_with (first | (go_at_call 13; (try (rename_i hK_; simp only [List.append] at hK_)); (with_reducible refine (int11_Of.calls kj41 ((x16_41 ++ x10_6) ++ x12_2) t221 true _ ?side1 A47.out).mono ?_); (case side1 => exact Go.Proofs.YtkijneohhilboaaDoor.PIT.Tabs_below HG.out bl); rintro e w56 ⟨rfl, hb⟩; have n0_ := Aside0.mk (below_step bl hb); clear HB; have HB := n0_; clear n0_; (try clear hb); (try clear hb2); (try clear hk); (try clear hi)) | (go_at_call 13; (try (rename_i hK_; simp only [List.append] at hK_)); (with_reducible refine (int11_Of.calls kj41 (x10_6 ++ x12_2) t223 true _ ?side1 A49.out).mono ?_); (case side1 => exact Go.Proofs.YtkijneohhilboaaDoor.PIT.Tabs_below HG.out bl); rintro e w57 ⟨rfl, hb⟩; have n0_ := Aside0.mk (below_step bl hb); clear HB; have HB := n0_; clear n0_; (try clear hb); (try clear hb2); (try clear hk); (try clear hi)) | (go_at_call 12; (try (rename_i hK_; simp only [List.append] at hK_)); (with_reducible refine (targumref4_Text.calls kj41 (wrap64 (a0)) t225 _ A53.out).mono ?_); rintro e w58 ⟨rfl, hb⟩; have n0_ := Aside0.mk (below_step bl hb); clear HB; have HB := n0_; clear n0_; (try clear hb); (try clear hb2); (try clear hk); (try clear hi)) | (go_at_call 14; (try (rename_i hK_; simp only [List.append] at hK_)); (with_reducible refine (int11_Form.calls (x10_6 ++ x12_2) t226 _ A55.out).mono ?_); rintro e w59 ⟨rfl, hb⟩; have n0_ := Aside0.mk (below_step bl hb); clear HB; have HB := n0_; clear n0_; (try clear hb); (try clear hb2); (try clear hk); (try clear hi)))
                      skip
                     case' y21 =>
                      rw [if_neg c54] at H
                      have c54b0 : (t223.toList == t225.toList) = false := beq_eq_false_iff_ne.mpr c54
                      have c54b1 : (t223.toList != t225.toList) = true := bne_iff_ne.mpr c54
                      obtain rfl := Option.some.inj H
                      go_wp2_with (first | (go_at_call 13; (try (rename_i hK_; simp only [List.append] at hK_)); (with_reducible refine (int11_Of.calls kj41 ((x16_41 ++ x10_6) ++ x12_2) t221 true _ ?side1 A47.out).mono ?_); (case side1 => exact Go.Proofs.YtkijneohhilboaaDoor.PIT.Tabs_below HG.out bl); rintro e w60 ⟨rfl, hb⟩; have n0_ := Aside0.mk (below_step bl hb); clear HB; have HB := n0_; clear n0_; (try clear hb); (try clear hb2); (try clear hk); (try clear hi)) | (go_at_call 13; (try (rename_i hK_; simp only [List.append] at hK_)); (with_reducible refine (int11_Of.calls kj41 (x10_6 ++ x12_2) t223 true _ ?side1 A49.out).mono ?_); (case side1 => exact Go.Proofs.YtkijneohhilboaaDoor.PIT.Tabs_below HG.out bl); rintro e w61 ⟨rfl, hb⟩; have n0_ := Aside0.mk (below_step bl hb); clear HB; have HB := n0_; clear n0_; (try clear hb); (try clear hb2); (try clear hk); (try clear hi)) | (go_at_call 12; (try (rename_i hK_; simp only [List.append] at hK_)); (with_reducible refine (targumref4_Text.calls kj41 (wrap64 (a0)) t225 _ A53.out).mono ?_); rintro e w62 ⟨rfl, hb⟩; have n0_ := Aside0.mk (below_step bl hb); clear HB; have HB := n0_; clear n0_; (try clear hb); (try clear hb2); (try clear hk); (try clear hi)))
                      skip
                    case' y20 =>
                     rw [if_neg c52] at H
                     have c52b0 : (t221.toList == t220.toList) = false := beq_eq_false_iff_ne.mpr c52
                     have c52b1 : (t221.toList != t220.toList) = true := bne_iff_ne.mpr c52
                     obtain rfl := Option.some.inj H
                     go_wp2_with (first | (go_at_call 13; (try (rename_i hK_; simp only [List.append] at hK_)); (with_reducible refine (int11_Of.calls kj41 ((x16_41 ++ x10_6) ++ x12_2) t221 true _ ?side1 A47.out).mono ?_); (case side1 => exact Go.Proofs.YtkijneohhilboaaDoor.PIT.Tabs_below HG.out bl); rintro e w63 ⟨rfl, hb⟩; have n0_ := Aside0.mk (below_step bl hb); clear HB; have HB := n0_; clear n0_; (try clear hb); (try clear hb2); (try clear hk); (try clear hi)) | (go_at_call 13; (try (rename_i hK_; simp only [List.append] at hK_)); (with_reducible refine (int11_Of.calls kj41 (x10_6 ++ x12_2) t223 true _ ?side1 A49.out).mono ?_); (case side1 => exact Go.Proofs.YtkijneohhilboaaDoor.PIT.Tabs_below HG.out bl); rintro e w64 ⟨rfl, hb⟩; have n0_ := Aside0.mk (below_step bl hb); clear HB; have HB := n0_; clear n0_; (try clear hb); (try clear hb2); (try clear hk); (try clear hi)))
                     skip
                   case' y19 =>
                    replace c51 := Bool.eq_false_iff.mpr c51
                    subst c51
                    have H1 : (some false) = some r := by rw [if_neg (show ¬ (false = true) by decide)] at H; exact H
                    clear H
                    have H := H1
                    clear H1
                    obtain rfl := Option.some.inj H
                    go_wp2_with (first | (go_at_call 13; (try (rename_i hK_; simp only [List.append] at hK_)); (with_reducible refine (int11_Of.calls kj41 ((x16_41 ++ x10_6) ++ x12_2) t221 true _ ?side1 A47.out).mono ?_); (case side1 => exact Go.Proofs.YtkijneohhilboaaDoor.PIT.Tabs_below HG.out bl); rintro e w65 ⟨rfl, hb⟩; have n0_ := Aside0.mk (below_step bl hb); clear HB; have HB := n0_; clear n0_; (try clear hb); (try clear hb2); (try clear hk); (try clear hi)) | (go_at_call 13; (try (rename_i hK_; simp only [List.append] at hK_)); (with_reducible refine (int11_Of.calls kj41 (x10_6 ++ x12_2) t223 false _ ?side1 A49.out).mono ?_); (case side1 => exact Go.Proofs.YtkijneohhilboaaDoor.PIT.Tabs_below HG.out bl); rintro e w66 ⟨rfl, hb⟩; have n0_ := Aside0.mk (below_step bl hb); clear HB; have HB := n0_; clear n0_; (try clear hb); (try clear hb2); (try clear hk); (try clear hi)))
                    skip
                  case' y18 =>
                   replace c50 := Bool.eq_false_iff.mpr c50
                   subst c50
                   have H1 : (some false) = some r := by rw [if_neg (show ¬ (false = true) by decide)] at H; exact H
                   clear H
                   have H := H1
                   clear H1
                   obtain rfl := Option.some.inj H
                   go_wp2_with (first | (go_at_call 13; (try (rename_i hK_; simp only [List.append] at hK_)); (with_reducible refine (int11_Of.calls kj41 ((x16_41 ++ x10_6) ++ x12_2) t221 false _ ?side1 A47.out).mono ?_); (case side1 => exact Go.Proofs.YtkijneohhilboaaDoor.PIT.Tabs_below HG.out bl); rintro e w67 ⟨rfl, hb⟩; have n0_ := Aside0.mk (below_step bl hb); clear HB; have HB := n0_; clear n0_; (try clear hb); (try clear hb2); (try clear hk); (try clear hi)) | (go_at_call 13; (try (rename_i hK_; simp only [List.append] at hK_)); (with_reducible refine (int11_Of.calls kj41 (x10_6 ++ x12_2) t223 t224 _ ?side1 A49.out).mono ?_); (case side1 => exact Go.Proofs.YtkijneohhilboaaDoor.PIT.Tabs_below HG.out bl); rintro e w68 ⟨rfl, hb⟩; have n0_ := Aside0.mk (below_step bl hb); clear HB; have HB := n0_; clear n0_; (try clear hb); (try clear hb2); (try clear hk); (try clear hi)))
                   skip
                  case x21 | y21 | y20 | y19 | y18 =>
                   as_aux_lemma =>
                    repeat (go_quiet (first | (go_at_call 13; (try (rename_i hK_; simp only [List.append] at hK_)); (with_reducible refine (int11_Of.calls _ _ _ _ _ ?side1 A47.out).mono ?_); (case side1 => exact Go.Proofs.YtkijneohhilboaaDoor.PIT.Tabs_below HG.out bl); rintro e w56 ⟨rfl, hb⟩; have n0_ := Aside0.mk (below_step bl hb); clear HB; have HB := n0_; clear n0_; (try clear hb); (try clear hb2); (try clear hk); (try clear hi)) | (go_at_call 13; (try (rename_i hK_; simp only [List.append] at hK_)); (with_reducible refine (int11_Of.calls _ _ _ _ _ ?side1 A49.out).mono ?_); (case side1 => exact Go.Proofs.YtkijneohhilboaaDoor.PIT.Tabs_below HG.out bl); rintro e w57 ⟨rfl, hb⟩; have n0_ := Aside0.mk (below_step bl hb); clear HB; have HB := n0_; clear n0_; (try clear hb); (try clear hb2); (try clear hk); (try clear hi)) | (go_at_call 12; (try (rename_i hK_; simp only [List.append] at hK_)); (with_reducible refine (targumref4_Text.calls _ _ _ _ A53.out).mono ?_); rintro e w58 ⟨rfl, hb⟩; have n0_ := Aside0.mk (below_step bl hb); clear HB; have HB := n0_; clear n0_; (try clear hb); (try clear hb2); (try clear hk); (try clear hi)) | (go_at_call 14; (try (rename_i hK_; simp only [List.append] at hK_)); (with_reducible refine (int11_Form.calls _ _ _ A55.out).mono ?_); rintro e w59 ⟨rfl, hb⟩; have n0_ := Aside0.mk (below_step bl hb); clear HB; have HB := n0_; clear n0_; (try clear hb); (try clear hb2); (try clear hk); (try clear hi))); try go_wp2_with (first | (go_at_call 13; (try (rename_i hK_; simp only [List.append] at hK_)); (with_reducible refine (int11_Of.calls _ _ _ _ _ ?side1 A47.out).mono ?_); (case side1 => exact Go.Proofs.YtkijneohhilboaaDoor.PIT.Tabs_below HG.out bl); rintro e w56 ⟨rfl, hb⟩; have n0_ := Aside0.mk (below_step bl hb); clear HB; have HB := n0_; clear n0_; (try clear hb); (try clear hb2); (try clear hk); (try clear hi)) | (go_at_call 13; (try (rename_i hK_; simp only [List.append] at hK_)); (with_reducible refine (int11_Of.calls _ _ _ _ _ ?side1 A49.out).mono ?_); (case side1 => exact Go.Proofs.YtkijneohhilboaaDoor.PIT.Tabs_below HG.out bl); rintro e w57 ⟨rfl, hb⟩; have n0_ := Aside0.mk (below_step bl hb); clear HB; have HB := n0_; clear n0_; (try clear hb); (try clear hb2); (try clear hk); (try clear hi)) | (go_at_call 12; (try (rename_i hK_; simp only [List.append] at hK_)); (with_reducible refine (targumref4_Text.calls _ _ _ _ A53.out).mono ?_); rintro e w58 ⟨rfl, hb⟩; have n0_ := Aside0.mk (below_step bl hb); clear HB; have HB := n0_; clear n0_; (try clear hb); (try clear hb2); (try clear hk); (try clear hi)) | (go_at_call 14; (try (rename_i hK_; simp only [List.append] at hK_)); (with_reducible refine (int11_Form.calls _ _ _ A55.out).mono ?_); rintro e w59 ⟨rfl, hb⟩; have n0_ := Aside0.mk (below_step bl hb); clear HB; have HB := n0_; clear n0_; (try clear hb); (try clear hb2); (try clear hk); (try clear hi))))
                    go_ret
                    exact ⟨by first | rfl | (simp [errW_none, errW_some] <;> rfl) | (simp [*, errW_none, errW_some] <;> rfl), bl⟩
                 ·rw [if_neg c48] at H
                  exact absurd H (by simp)
                ·rw [if_neg c46] at H
                 exact absurd H (by simp)
               ·rw [if_neg c45] at H
                exact absurd H (by simp)
 ·replace c6 := Bool.eq_false_iff.mpr c6
  subst c6
  have H1 : (some false) = some r := by rw [if_neg (show ¬ (false = true) by decide)] at H; exact H
  clear H
  have H := H1
  clear H1
  obtain rfl := Option.some.inj H
  go_enter Tryd.func3, Tryd.ntmps3
  go_wp2_with (first | (go_at_call 10; (try (rename_i hK_; simp only [List.append] at hK_)); (with_reducible refine (targumlaw6_known.calls k  false _ ?side1 A5.out).mono ?_); (case side1 => exact Go.Proofs.YtkijneohhilboaaDoor.PIT.Tabs_below HG.out bl); rintro e w69 ⟨rfl, hb⟩; have n0_ := Aside0.mk (below_step bl hb); clear HB; have HB := n0_; clear n0_; (try clear hb); (try clear hb2); (try clear hk); (try clear hi)))
  repeat (go_quiet (first | (go_at_call 10; (try (rename_i hK_; simp only [List.append] at hK_)); (with_reducible refine (targumlaw6_known.calls k  false _ ?side1 A5.out).mono ?_); (case side1 => exact Go.Proofs.YtkijneohhilboaaDoor.PIT.Tabs_below HG.out bl); rintro e w69 ⟨rfl, hb⟩; have n0_ := Aside0.mk (below_step bl hb); clear HB; have HB := n0_; clear n0_; (try clear hb); (try clear hb2); (try clear hk); (try clear hi))); try go_wp2_with (first | (go_at_call 10; (try (rename_i hK_; simp only [List.append] at hK_)); (with_reducible refine (targumlaw6_known.calls k  false _ ?side1 A5.out).mono ?_); (case side1 => exact Go.Proofs.YtkijneohhilboaaDoor.PIT.Tabs_below HG.out bl); rintro e w69 ⟨rfl, hb⟩; have n0_ := Aside0.mk (below_step bl hb); clear HB; have HB := n0_; clear n0_; (try clear hb); (try clear hb2); (try clear hk); (try clear hi))))
  go_ret
  exact ⟨by first | rfl | (simp [errW_none, errW_some] <;> rfl) | (simp [*, errW_none, errW_some] <;> rfl), bl⟩

/-- THE ONE PURE STATEMENT of targumlaw6_Int11Bases: yours. -/
def targumlaw6_Int11Bases.Pure : Prop := ∀ (a0 : Int) (a1 : Int) (a2 : Bool) (a3 : Int), (Lit.int .u32 a0).wf = true → (Lit.int .u8 a1).wf = true → (Lit.int .u8 a3).wf = true → ∃ k, targumlaw6_Int11Bases.f k a0 a1 a2 a3 = some true
theorem targumlaw6_Int11Bases.walk (P : targumlaw6_Int11Bases.Pure) (a0 : Int) (a1 : Int) (a2 : Bool) (a3 : Int) (w : World) (w0 : (Lit.int .u32 a0).wf = true) (w1 : (Lit.int .u8 a1).wf = true) (w3 : (Lit.int .u8 a3).wf = true) (hG : Go.Proofs.YtkijneohhilboaaDoor.PIT.Tabs w) :
  Calls Tryd.prog 3 #[.int .u32 a0, .int .u8 a1, .bool a2, .int .u8 a3] w fun e w' => e = .returned (.bool true) ∧ Below w.heap.size w w' := by
 obtain ⟨k, h⟩ := P a0 a1 a2 a3 w0 w1 w3
 refine (targumlaw6_Int11Bases.calls k a0 a1 a2 a3 true w hG h).mono ?_
 rintro e w' ⟨rfl, hd⟩
 exact ⟨rfl, hd⟩

end Go.Proofs.YtkijneohhilboaaDoor.PI
