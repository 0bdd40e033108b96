/- Written by this session's own program (xprint, made over the kit's print): Lean functions with the same answers as the Go functions, and the proofs of that. Not trusted: Lean checks it. -/
import Derived.Test.YtkijneohhilboaaGreatDoorPKx0
import Derived.Test.YtkijneohhilboaaGreatDoorPKx1
import Derived.Test.YtkijneohhilboaaGreatDoorPKx6
import Derived.Test.YtkijneohhilboaaGreatDoorPKx7
import Derived.Test.YtkijneohhilboaaGreatDoorPKx8
import Derived.Test.YtkijneohhilboaaGreatDoorPKx9
import Derived.Test.YtkijneohhilboaaGreatDoorPKx12
import Derived.Test.YtkijneohhilboaaGreatDoorXW
namespace Go.Proofs.YtkijneohhilboaaGreatDoor.PK
open Go.Proofs.YtkijneohhilboaaGreatDoor.XW Go.RowKit Go.Proofs.YtkijneohhilboaaGreatDoorW.PrintWords Go.Proofs.YtkijneohhilboaaGreatDoorW.PrintLast Go.Proofs.YtkijneohhilboaaGreatDoorW.PrintMore
attribute [local go_sem] max2_int min2_int max_two min_two max_three min_three max_four min_four   -- for this text's walks alone
set_option linter.unusedVariables false
set_option linter.unusedSimpArgs false

attribute [local go_sem high] eqA26
/-! ### targumlaw7_Float11Parts: function 4 -/
mutual
def targumlaw7_Float11Parts.j0 : Nat → ByteArray → ByteArray → ByteArray → Bool → Bool → Bool → Bool → Bool → Option (Bool)
 | 0, _, _, _, _, _, _, _, _ => none
 | k + 1, x0, x1, x2, x3, x4, x5, x6, x52 => if x52 = true then (some true) else (if (x0.size : Int) = 0 then (targumlaw7_Float11Parts.j1 k x0 x1 x2 x3 x4 x5 x6 ((x1.size : Int) == 0)) else (targumlaw7_Float11Parts.j1 k x0 x1 x2 x3 x4 x5 x6 false))
def targumlaw7_Float11Parts.j1 : Nat → ByteArray → ByteArray → ByteArray → Bool → Bool → Bool → Bool → Bool → Option (Bool)
 | 0, _, _, _, _, _, _, _, _ => none
 | k + 1, x0, x1, x2, x3, x4, x5, x6, x60 => if x60 = true then (some true) else ((targumlaw7_digits.f k x0).bind fun t266 => (if t266.size + 1 ≤ 9223372036854775807 then ((targumlaw7_digits.f k x1).bind fun t267 => (if (t266 ++ (⟨#[46]⟩ : ByteArray)).size + t267.size ≤ 9223372036854775807 then (if x5 = true then (if x6 = true then (targumlaw7_Float11Parts.j2 k x0 x1 x2 x3 x4 ((t266 ++ (⟨#[46]⟩ : ByteArray)) ++ t267) (⟨#[69]⟩ : ByteArray) (⟨#[43]⟩ : ByteArray)) else (targumlaw7_Float11Parts.j2 k x0 x1 x2 x3 x4 ((t266 ++ (⟨#[46]⟩ : ByteArray)) ++ t267) (⟨#[101]⟩ : ByteArray) (⟨#[43]⟩ : ByteArray))) else (targumlaw7_Float11Parts.j4 k x0 x1 x3 ((t266 ++ (⟨#[46]⟩ : ByteArray)) ++ t267) (⟨#[48]⟩ : ByteArray))) else (none))) else (none)))
def targumlaw7_Float11Parts.j4 : Nat → ByteArray → ByteArray → Bool → ByteArray → ByteArray → Option (Bool)
 | 0, _, _, _, _, _ => none
 | k + 1, x0, x1, x3, x15, x16 => (targumlaw7_digits.f k x0).bind fun t273 => ((targumlaw7_digits.f k x1).bind fun t274 => ((targumref4_Make.f k x3 t273 t274 x16).bind fun bt275 => (if (x0.size : Int) = 0 then (targumlaw7_Float11Parts.j5 k x3 x15 2 bt275.1 bt275.2.1 bt275.2.2.1 bt275.2.2.2.1) else (targumlaw7_Float11Parts.j5 k x3 x15 1 bt275.1 bt275.2.1 bt275.2.2.1 bt275.2.2.2.1))))
def targumlaw7_Float11Parts.j5 : Nat → Bool → ByteArray → Int → Int → Bool → ByteArray → ByteArray → Option (Bool)
 | 0, _, _, _, _, _, _, _ => none
 | k + 1, x3, x15, x21, x281000, x281001, x281002, x281003 => if x3 = true then (if 1 + x15.size ≤ 9223372036854775807 then ((float11_Of.f k ((⟨#[45]⟩ : ByteArray) ++ x15)).bind fun bt281 => (if bt281.2.2.2.2 = true then (if (bt281.1 == x281000 && (bt281.2.1 == x281001 && (bt281.2.2.1.toList == x281002.toList && (bt281.2.2.2.1.toList == x281003.toList)))) = true then ((float11_Form.f k x15).bind fun t287 => (if t287 = x21 then ((float11_Form.f k ((⟨#[45]⟩ : ByteArray) ++ x15)).bind fun t288 => (some (t288 == x21))) else (some false))) else (some false)) else (some false))) else (none)) else (if 1 + x15.size ≤ 9223372036854775807 then ((float11_Of.f k ((⟨#[43]⟩ : ByteArray) ++ x15)).bind fun bt289 => (if bt289.2.2.2.2 = true then (if (bt289.1 == x281000 && (bt289.2.1 == x281001 && (bt289.2.2.1.toList == x281002.toList && (bt289.2.2.2.1.toList == x281003.toList)))) = true then ((float11_Form.f k x15).bind fun t295 => (if t295 = x21 then ((float11_Form.f k ((⟨#[43]⟩ : ByteArray) ++ x15)).bind fun t296 => (some (t296 == x21))) else (some false))) else (some false)) else (some false))) else (none))
def targumlaw7_Float11Parts.j2 : Nat → ByteArray → ByteArray → ByteArray → Bool → Bool → ByteArray → ByteArray → ByteArray → Option (Bool)
 | 0, _, _, _, _, _, _, _, _ => none
 | k + 1, x0, x1, x2, x3, x4, x15, x17, x18 => if x4 = true then (targumlaw7_Float11Parts.j3 k x0 x1 x2 x3 x4 x15 x17 (⟨#[45]⟩ : ByteArray)) else (targumlaw7_Float11Parts.j3 k x0 x1 x2 x3 x4 x15 x17 x18)
def targumlaw7_Float11Parts.j3 : Nat → ByteArray → ByteArray → ByteArray → Bool → Bool → ByteArray → ByteArray → ByteArray → Option (Bool)
 | 0, _, _, _, _, _, _, _, _ => none
 | k + 1, x0, x1, x2, x3, x4, x15, x17, x18 => if x15.size + x17.size ≤ 9223372036854775807 then ((targumlaw7_digits.f k x2).bind fun t268 => (if (x15 ++ x17).size + t268.size ≤ 9223372036854775807 then ((float11_Is.f k ((x15 ++ x17) ++ t268)).bind fun t269 => (if t269 = true then (some false) else (if (x15 ++ x17).size + x18.size ≤ 9223372036854775807 then ((targumlaw7_digits.f k x2).bind fun t270 => (if ((x15 ++ x17) ++ x18).size + t270.size ≤ 9223372036854775807 then ((targumlaw7_digits.f k x2).bind fun t271 => ((targumref4_Norm.f k x4 t271).bind fun t272 => (targumlaw7_Float11Parts.j4 k x0 x1 x3 (((x15 ++ x17) ++ x18) ++ t270) t272))) else (none))) else (none)))) else (none))) else (none)
end
def targumlaw7_Float11Parts.f (k : Nat) (a0 : ByteArray) (a1 : ByteArray) (a2 : ByteArray) (a3 : Bool) (a4 : Bool) (a5 : Bool) (a6 : Bool) : Option (Bool) := (targumlaw7_known.f k).bind fun t265 => (if t265 = true then (if (wrap64 ((a0.size : Int) + (a1.size : Int))) < 1 then (targumlaw7_Float11Parts.j0 k a0 a1 a2 a3 a4 a5 a6 true) else (if (a0.size : Int) > 30 then (targumlaw7_Float11Parts.j0 k a0 a1 a2 a3 a4 a5 a6 true) else (if (a1.size : Int) > 30 then (targumlaw7_Float11Parts.j0 k a0 a1 a2 a3 a4 a5 a6 true) else (if (a2.size : Int) < 1 then (targumlaw7_Float11Parts.j0 k a0 a1 a2 a3 a4 a5 a6 true) else (targumlaw7_Float11Parts.j0 k a0 a1 a2 a3 a4 a5 a6 (decide ((a2.size : Int) > 30))))))) else (some false))
theorem targumlaw7_Float11Parts.mono_l : ∀ k, (∀ y0 y1 y2 y3 y4 y5 y6 y7, LeO (targumlaw7_Float11Parts.j0 k y0 y1 y2 y3 y4 y5 y6 y7) (targumlaw7_Float11Parts.j0 (k + 1) y0 y1 y2 y3 y4 y5 y6 y7)) ∧ (∀ y0 y1 y2 y3 y4 y5 y6 y7, LeO (targumlaw7_Float11Parts.j1 k y0 y1 y2 y3 y4 y5 y6 y7) (targumlaw7_Float11Parts.j1 (k + 1) y0 y1 y2 y3 y4 y5 y6 y7)) ∧ (∀ y0 y1 y2 y3 y4, LeO (targumlaw7_Float11Parts.j4 k y0 y1 y2 y3 y4) (targumlaw7_Float11Parts.j4 (k + 1) y0 y1 y2 y3 y4)) ∧ (∀ y0 y1 y2 y3 y4 y5 y6, LeO (targumlaw7_Float11Parts.j5 k y0 y1 y2 y3 y4 y5 y6) (targumlaw7_Float11Parts.j5 (k + 1) y0 y1 y2 y3 y4 y5 y6)) ∧ (∀ y0 y1 y2 y3 y4 y5 y6 y7, LeO (targumlaw7_Float11Parts.j2 k y0 y1 y2 y3 y4 y5 y6 y7) (targumlaw7_Float11Parts.j2 (k + 1) y0 y1 y2 y3 y4 y5 y6 y7)) ∧ (∀ y0 y1 y2 y3 y4 y5 y6 y7, LeO (targumlaw7_Float11Parts.j3 k y0 y1 y2 y3 y4 y5 y6 y7) (targumlaw7_Float11Parts.j3 (k + 1) y0 y1 y2 y3 y4 y5 y6 y7))
 | 0 => ⟨fun _ _ _ _ _ _ _ _ r h => by simp [targumlaw7_Float11Parts.j0] at h, fun _ _ _ _ _ _ _ _ r h => by simp [targumlaw7_Float11Parts.j1] at h, fun _ _ _ _ _ r h => by simp [targumlaw7_Float11Parts.j4] at h, fun _ _ _ _ _ _ _ r h => by simp [targumlaw7_Float11Parts.j5] at h, fun _ _ _ _ _ _ _ _ r h => by simp [targumlaw7_Float11Parts.j2] at h, fun _ _ _ _ _ _ _ _ r h => by simp [targumlaw7_Float11Parts.j3] at h⟩
 | k + 1 => by
  obtain ⟨ih0, ih1, ih2, ih3, ih4, ih5⟩ := targumlaw7_Float11Parts.mono_l k
  refine ⟨?_, ?_, ?_, ?_, ?_, ?_⟩
  ·intro y0 y1 y2 y3 y4 y5 y6 y7
   unfold targumlaw7_Float11Parts.j0
   repeat' first
   | (with_reducible exact ih0 _ _ _ _ _ _ _ _)
   | (with_reducible exact ih1 _ _ _ _ _ _ _ _)
   | (with_reducible exact ih2 _ _ _ _ _)
   | (with_reducible exact ih3 _ _ _ _ _ _ _)
   | (with_reducible exact ih4 _ _ _ _ _ _ _ _)
   | (with_reducible exact ih5 _ _ _ _ _ _ _ _)
   | (with_reducible exact float11_Form.mono _ _)
   | (with_reducible exact float11_Is.mono _ _)
   | (with_reducible exact float11_Of.mono _ _)
   | (with_reducible exact targumlaw7_digits.mono _ _)
   | (with_reducible exact targumlaw7_known.mono _)
   | (with_reducible exact targumref4_Make.mono _ _ _ _ _)
   | (with_reducible exact targumref4_Norm.mono _ _ _)
   | (with_reducible exact LeO.refl _)
   | (with_reducible exact LeO.none _)
   | (with_reducible refine LeO.ite ?_ ?_)
   | (with_reducible refine LeO.bind ?_ (fun _ => ?_))
   | exact ih0 _ _ _ _ _ _ _ _
   | exact ih1 _ _ _ _ _ _ _ _
   | exact ih2 _ _ _ _ _
   | exact ih3 _ _ _ _ _ _ _
   | exact ih4 _ _ _ _ _ _ _ _
   | exact ih5 _ _ _ _ _ _ _ _
   | exact float11_Form.mono _ _
   | exact float11_Is.mono _ _
   | exact float11_Of.mono _ _
   | exact targumlaw7_digits.mono _ _
   | exact targumlaw7_known.mono _
   | exact targumref4_Make.mono _ _ _ _ _
   | exact targumref4_Norm.mono _ _ _
   | exact LeO.none _
   | refine LeO.ite ?_ ?_
   | refine LeO.bind ?_ (fun _ => ?_)
  ·intro y0 y1 y2 y3 y4 y5 y6 y7
   unfold targumlaw7_Float11Parts.j1
   repeat' first
   | (with_reducible exact ih0 _ _ _ _ _ _ _ _)
   | (with_reducible exact ih1 _ _ _ _ _ _ _ _)
   | (with_reducible exact ih2 _ _ _ _ _)
   | (with_reducible exact ih3 _ _ _ _ _ _ _)
   | (with_reducible exact ih4 _ _ _ _ _ _ _ _)
   | (with_reducible exact ih5 _ _ _ _ _ _ _ _)
   | (with_reducible exact float11_Form.mono _ _)
   | (with_reducible exact float11_Is.mono _ _)
   | (with_reducible exact float11_Of.mono _ _)
   | (with_reducible exact targumlaw7_digits.mono _ _)
   | (with_reducible exact targumlaw7_known.mono _)
   | (with_reducible exact targumref4_Make.mono _ _ _ _ _)
   | (with_reducible exact targumref4_Norm.mono _ _ _)
   | (with_reducible exact LeO.refl _)
   | (with_reducible exact LeO.none _)
   | (with_reducible refine LeO.ite ?_ ?_)
   | (with_reducible refine LeO.bind ?_ (fun _ => ?_))
   | exact ih0 _ _ _ _ _ _ _ _
   | exact ih1 _ _ _ _ _ _ _ _
   | exact ih2 _ _ _ _ _
   | exact ih3 _ _ _ _ _ _ _
   | exact ih4 _ _ _ _ _ _ _ _
   | exact ih5 _ _ _ _ _ _ _ _
   | exact float11_Form.mono _ _
   | exact float11_Is.mono _ _
   | exact float11_Of.mono _ _
   | exact targumlaw7_digits.mono _ _
   | exact targumlaw7_known.mono _
   | exact targumref4_Make.mono _ _ _ _ _
   | exact targumref4_Norm.mono _ _ _
   | exact LeO.none _
   | refine LeO.ite ?_ ?_
   | refine LeO.bind ?_ (fun _ => ?_)
  ·intro y0 y1 y2 y3 y4
   unfold targumlaw7_Float11Parts.j4
   repeat' first
   | (with_reducible exact ih0 _ _ _ _ _ _ _ _)
   | (with_reducible exact ih1 _ _ _ _ _ _ _ _)
   | (with_reducible exact ih2 _ _ _ _ _)
   | (with_reducible exact ih3 _ _ _ _ _ _ _)
   | (with_reducible exact ih4 _ _ _ _ _ _ _ _)
   | (with_reducible exact ih5 _ _ _ _ _ _ _ _)
   | (with_reducible exact float11_Form.mono _ _)
   | (with_reducible exact float11_Is.mono _ _)
   | (with_reducible exact float11_Of.mono _ _)
   | (with_reducible exact targumlaw7_digits.mono _ _)
   | (with_reducible exact targumlaw7_known.mono _)
   | (with_reducible exact targumref4_Make.mono _ _ _ _ _)
   | (with_reducible exact targumref4_Norm.mono _ _ _)
   | (with_reducible exact LeO.refl _)
   | (with_reducible exact LeO.none _)
   | (with_reducible refine LeO.ite ?_ ?_)
   | (with_reducible refine LeO.bind ?_ (fun _ => ?_))
   | exact ih0 _ _ _ _ _ _ _ _
   | exact ih1 _ _ _ _ _ _ _ _
   | exact ih2 _ _ _ _ _
   | exact ih3 _ _ _ _ _ _ _
   | exact ih4 _ _ _ _ _ _ _ _
   | exact ih5 _ _ _ _ _ _ _ _
   | exact float11_Form.mono _ _
   | exact float11_Is.mono _ _
   | exact float11_Of.mono _ _
   | exact targumlaw7_digits.mono _ _
   | exact targumlaw7_known.mono _
   | exact targumref4_Make.mono _ _ _ _ _
   | exact targumref4_Norm.mono _ _ _
   | exact LeO.none _
   | refine LeO.ite ?_ ?_
   | refine LeO.bind ?_ (fun _ => ?_)
  ·intro y0 y1 y2 y3 y4 y5 y6
   unfold targumlaw7_Float11Parts.j5
   repeat' first
   | (with_reducible exact ih0 _ _ _ _ _ _ _ _)
   | (with_reducible exact ih1 _ _ _ _ _ _ _ _)
   | (with_reducible exact ih2 _ _ _ _ _)
   | (with_reducible exact ih3 _ _ _ _ _ _ _)
   | (with_reducible exact ih4 _ _ _ _ _ _ _ _)
   | (with_reducible exact ih5 _ _ _ _ _ _ _ _)
   | (with_reducible exact float11_Form.mono _ _)
   | (with_reducible exact float11_Is.mono _ _)
   | (with_reducible exact float11_Of.mono _ _)
   | (with_reducible exact targumlaw7_digits.mono _ _)
   | (with_reducible exact targumlaw7_known.mono _)
   | (with_reducible exact targumref4_Make.mono _ _ _ _ _)
   | (with_reducible exact targumref4_Norm.mono _ _ _)
   | (with_reducible exact LeO.refl _)
   | (with_reducible exact LeO.none _)
   | (with_reducible refine LeO.ite ?_ ?_)
   | (with_reducible refine LeO.bind ?_ (fun _ => ?_))
   | exact ih0 _ _ _ _ _ _ _ _
   | exact ih1 _ _ _ _ _ _ _ _
   | exact ih2 _ _ _ _ _
   | exact ih3 _ _ _ _ _ _ _
   | exact ih4 _ _ _ _ _ _ _ _
   | exact ih5 _ _ _ _ _ _ _ _
   | exact float11_Form.mono _ _
   | exact float11_Is.mono _ _
   | exact float11_Of.mono _ _
   | exact targumlaw7_digits.mono _ _
   | exact targumlaw7_known.mono _
   | exact targumref4_Make.mono _ _ _ _ _
   | exact targumref4_Norm.mono _ _ _
   | exact LeO.none _
   | refine LeO.ite ?_ ?_
   | refine LeO.bind ?_ (fun _ => ?_)
  ·intro y0 y1 y2 y3 y4 y5 y6 y7
   unfold targumlaw7_Float11Parts.j2
   repeat' first
   | (with_reducible exact ih0 _ _ _ _ _ _ _ _)
   | (with_reducible exact ih1 _ _ _ _ _ _ _ _)
   | (with_reducible exact ih2 _ _ _ _ _)
   | (with_reducible exact ih3 _ _ _ _ _ _ _)
   | (with_reducible exact ih4 _ _ _ _ _ _ _ _)
   | (with_reducible exact ih5 _ _ _ _ _ _ _ _)
   | (with_reducible exact float11_Form.mono _ _)
   | (with_reducible exact float11_Is.mono _ _)
   | (with_reducible exact float11_Of.mono _ _)
   | (with_reducible exact targumlaw7_digits.mono _ _)
   | (with_reducible exact targumlaw7_known.mono _)
   | (with_reducible exact targumref4_Make.mono _ _ _ _ _)
   | (with_reducible exact targumref4_Norm.mono _ _ _)
   | (with_reducible exact LeO.refl _)
   | (with_reducible exact LeO.none _)
   | (with_reducible refine LeO.ite ?_ ?_)
   | (with_reducible refine LeO.bind ?_ (fun _ => ?_))
   | exact ih0 _ _ _ _ _ _ _ _
   | exact ih1 _ _ _ _ _ _ _ _
   | exact ih2 _ _ _ _ _
   | exact ih3 _ _ _ _ _ _ _
   | exact ih4 _ _ _ _ _ _ _ _
   | exact ih5 _ _ _ _ _ _ _ _
   | exact float11_Form.mono _ _
   | exact float11_Is.mono _ _
   | exact float11_Of.mono _ _
   | exact targumlaw7_digits.mono _ _
   | exact targumlaw7_known.mono _
   | exact targumref4_Make.mono _ _ _ _ _
   | exact targumref4_Norm.mono _ _ _
   | exact LeO.none _
   | refine LeO.ite ?_ ?_
   | refine LeO.bind ?_ (fun _ => ?_)
  ·intro y0 y1 y2 y3 y4 y5 y6 y7
   unfold targumlaw7_Float11Parts.j3
   repeat' first
   | (with_reducible exact ih0 _ _ _ _ _ _ _ _)
   | (with_reducible exact ih1 _ _ _ _ _ _ _ _)
   | (with_reducible exact ih2 _ _ _ _ _)
   | (with_reducible exact ih3 _ _ _ _ _ _ _)
   | (with_reducible exact ih4 _ _ _ _ _ _ _ _)
   | (with_reducible exact ih5 _ _ _ _ _ _ _ _)
   | (with_reducible exact float11_Form.mono _ _)
   | (with_reducible exact float11_Is.mono _ _)
   | (with_reducible exact float11_Of.mono _ _)
   | (with_reducible exact targumlaw7_digits.mono _ _)
   | (with_reducible exact targumlaw7_known.mono _)
   | (with_reducible exact targumref4_Make.mono _ _ _ _ _)
   | (with_reducible exact targumref4_Norm.mono _ _ _)
   | (with_reducible exact LeO.refl _)
   | (with_reducible exact LeO.none _)
   | (with_reducible refine LeO.ite ?_ ?_)
   | (with_reducible refine LeO.bind ?_ (fun _ => ?_))
   | exact ih0 _ _ _ _ _ _ _ _
   | exact ih1 _ _ _ _ _ _ _ _
   | exact ih2 _ _ _ _ _
   | exact ih3 _ _ _ _ _ _ _
   | exact ih4 _ _ _ _ _ _ _ _
   | exact ih5 _ _ _ _ _ _ _ _
   | exact float11_Form.mono _ _
   | exact float11_Is.mono _ _
   | exact float11_Of.mono _ _
   | exact targumlaw7_digits.mono _ _
   | exact targumlaw7_known.mono _
   | exact targumref4_Make.mono _ _ _ _ _
   | exact targumref4_Norm.mono _ _ _
   | exact LeO.none _
   | refine LeO.ite ?_ ?_
   | refine LeO.bind ?_ (fun _ => ?_)
theorem targumlaw7_Float11Parts.mono : ∀ a0 a1 a2 a3 a4 a5 a6 k, LeO (targumlaw7_Float11Parts.f k a0 a1 a2 a3 a4 a5 a6) (targumlaw7_Float11Parts.f (k + 1) a0 a1 a2 a3 a4 a5 a6) := by
 intro a0 a1 a2 a3 a4 a5 a6 k
 obtain ⟨ih0, ih1, ih2, ih3, ih4, ih5⟩ := targumlaw7_Float11Parts.mono_l k
 unfold targumlaw7_Float11Parts.f
 repeat' first
   | (with_reducible exact ih0 _ _ _ _ _ _ _ _)
   | (with_reducible exact ih1 _ _ _ _ _ _ _ _)
   | (with_reducible exact ih2 _ _ _ _ _)
   | (with_reducible exact ih3 _ _ _ _ _ _ _)
   | (with_reducible exact ih4 _ _ _ _ _ _ _ _)
   | (with_reducible exact ih5 _ _ _ _ _ _ _ _)
   | (with_reducible exact float11_Form.mono _ _)
   | (with_reducible exact float11_Is.mono _ _)
   | (with_reducible exact float11_Of.mono _ _)
   | (with_reducible exact targumlaw7_digits.mono _ _)
   | (with_reducible exact targumlaw7_known.mono _)
   | (with_reducible exact targumref4_Make.mono _ _ _ _ _)
   | (with_reducible exact targumref4_Norm.mono _ _ _)
   | (with_reducible exact LeO.refl _)
   | (with_reducible exact LeO.none _)
   | (with_reducible refine LeO.ite ?_ ?_)
   | (with_reducible refine LeO.bind ?_ (fun _ => ?_))
   | exact ih0 _ _ _ _ _ _ _ _
   | exact ih1 _ _ _ _ _ _ _ _
   | exact ih2 _ _ _ _ _
   | exact ih3 _ _ _ _ _ _ _
   | exact ih4 _ _ _ _ _ _ _ _
   | exact ih5 _ _ _ _ _ _ _ _
   | exact float11_Form.mono _ _
   | exact float11_Is.mono _ _
   | exact float11_Of.mono _ _
   | exact targumlaw7_digits.mono _ _
   | exact targumlaw7_known.mono _
   | exact targumref4_Make.mono _ _ _ _ _
   | exact targumref4_Norm.mono _ _ _
   | exact LeO.none _
   | refine LeO.ite ?_ ?_
   | refine LeO.bind ?_ (fun _ => ?_)
set_option maxHeartbeats 40000000 in
set_option maxRecDepth 100000 in
theorem targumlaw7_Float11Parts.calls (k : Nat) (a0 : ByteArray) (a1 : ByteArray) (a2 : ByteArray) (a3 : Bool) (a4 : Bool) (a5 : Bool) (a6 : Bool) (r : Bool) (w : World) (hG : Go.Proofs.YtkijneohhilboaaGreatDoor.PKT.Tabs w) (h : targumlaw7_Float11Parts.f k a0 a1 a2 a3 a4 a5 a6 = some r) :
  Calls Tryz.prog 4 #[.string a0, .string a1, .string a2, .bool a3, .bool a4, .bool a5, .bool a6] w fun e w' => e = .returned (.bool r) ∧ Below w.heap.size w w' := by
 have hu26 := Tryz.underlying26
 have HG := Aside0.mk hG
 clear hG
 have HB := Aside0.mk (Below.refl w.heap.size w)
 have H : ((targumlaw7_known.f k).bind fun t265 => (if t265 = true then (if (wrap64 ((a0.size : Int) + (a1.size : Int))) < 1 then (targumlaw7_Float11Parts.j0 k a0 a1 a2 a3 a4 a5 a6 true) else (if (a0.size : Int) > 30 then (targumlaw7_Float11Parts.j0 k a0 a1 a2 a3 a4 a5 a6 true) else (if (a1.size : Int) > 30 then (targumlaw7_Float11Parts.j0 k a0 a1 a2 a3 a4 a5 a6 true) else (if (a2.size : Int) < 1 then (targumlaw7_Float11Parts.j0 k a0 a1 a2 a3 a4 a5 a6 true) else (targumlaw7_Float11Parts.j0 k a0 a1 a2 a3 a4 a5 a6 (decide ((a2.size : Int) > 30))))))) else (some false))) = some r := h
 clear h
 replace H := Option.bind_eq_some_iff.mp H
 obtain ⟨t265, A80, H⟩ := H
 replace H : (if t265 = true then (if (wrap64 ((a0.size : Int) + (a1.size : Int))) < 1 then (targumlaw7_Float11Parts.j0 k a0 a1 a2 a3 a4 a5 a6 true) else (if (a0.size : Int) > 30 then (targumlaw7_Float11Parts.j0 k a0 a1 a2 a3 a4 a5 a6 true) else (if (a1.size : Int) > 30 then (targumlaw7_Float11Parts.j0 k a0 a1 a2 a3 a4 a5 a6 true) else (if (a2.size : Int) < 1 then (targumlaw7_Float11Parts.j0 k a0 a1 a2 a3 a4 a5 a6 true) else (targumlaw7_Float11Parts.j0 k a0 a1 a2 a3 a4 a5 a6 (decide ((a2.size : Int) > 30))))))) else (some false)) = some r := H
 have A8 := Aside0.mk A80
 clear A80
 by_cases c9 : t265 = true
 ·subst c9
  have H1 : (if (wrap64 ((a0.size : Int) + (a1.size : Int))) < 1 then (targumlaw7_Float11Parts.j0 k a0 a1 a2 a3 a4 a5 a6 true) else (if (a0.size : Int) > 30 then (targumlaw7_Float11Parts.j0 k a0 a1 a2 a3 a4 a5 a6 true) else (if (a1.size : Int) > 30 then (targumlaw7_Float11Parts.j0 k a0 a1 a2 a3 a4 a5 a6 true) else (if (a2.size : Int) < 1 then (targumlaw7_Float11Parts.j0 k a0 a1 a2 a3 a4 a5 a6 true) else (targumlaw7_Float11Parts.j0 k a0 a1 a2 a3 a4 a5 a6 (decide ((a2.size : Int) > 30))))))) = some r := by rw [if_pos rfl] at H; exact H
  clear H
  have H := H1
  clear H1
  have HC10 := Aside0.mk H
  clear H
  go_enter Tryz.func4, Tryz.ntmps4
  go_upto_region 3 with (first | ((with_reducible refine gate_callee (f := 7) rfl ?_); refine goesL_ (some 25) rfl rfl Tryz.func7 (by kernel_rfl) rfl #[] rfl (by (try simp only [List.map_toArray, List.map_cons, List.map_nil]); first | done | rfl | (simp only [List.length_drop, List.length_take]; rfl)) ?_; (with_reducible refine (targumlaw7_known.calls k  true _ ?side1 A8.out).mono ?_); (case side1 => exact Go.Proofs.YtkijneohhilboaaGreatDoor.PKT.Tabs_below HG.out bl); rintro e w11 ⟨rfl, hb⟩; refine ⟨_, rfl, ?_⟩; have n0_ := Aside0.mk (below_step bl hb); clear HB; have HB := n0_; clear n0_; (try clear hb); (try clear hb2); (try clear hk); (try clear hi)))
  (try simp only [Act.put, List.setIfInBounds_toArray, List.set_cons_zero, List.set_cons_succ])
  go_cut [52] (fun v52 wc => ∃ (kq : Nat) (x52_9 : Bool), v52 = .bool x52_9 ∧ Aside0 (targumlaw7_Float11Parts.j0 kq a0 a1 a2 a3 a4 a5 a6 x52_9 = some r) ∧ Aside0 (kq ≤ k) ∧ Aside0 (Below w.heap.size w wc))
  case first =>
   have H := HC10.out
   clear HC10
   by_cases c12 : (wrap64 ((a0.size : Int) + (a1.size : Int))) < 1
   ·rw [if_pos c12] at H
    have c12b0 : decide ((wrap64 ((a0.size : Int) + (a1.size : Int))) < 1) = true := decide_eq_true c12; clear c12; (first | rw [c12b0] | (simp only [i64_w, i32_w]; rw [c12b0]) | skip); have H' := Aside0.mk H; clear H; go_wp2; go_meet
    case rel => exact ⟨_, (true), (by first | rfl | (simp; done) | (simp [*]; done) | (simp [wrap64]; done)), H', ⟨by first | omega | exact Nat.le_refl _⟩, ⟨bl⟩⟩
   ·rw [if_neg c12] at H
    have c12b0 : decide ((wrap64 ((a0.size : Int) + (a1.size : Int))) < 1) = false := decide_eq_false c12; clear c12; (first | rw [c12b0] | (simp only [i64_w, i32_w]; rw [c12b0]) | skip); by_cases c13 : (a0.size : Int) > 30
    ·rw [if_pos c13] at H
     have c13b0 : decide (30 < (a0.size : Int)) = true := decide_eq_true c13; have c13b1 : decide (30 < a0.size) = true := decide_eq_true (by omega); clear c13; have H' := Aside0.mk H; clear H; go_wp2; go_meet
     case rel => exact ⟨_, (true), (by first | rfl | (simp; done) | (simp [*]; done) | (simp [wrap64]; done)), H', ⟨by first | omega | exact Nat.le_refl _⟩, ⟨bl⟩⟩
    ·rw [if_neg c13] at H
     have c13b0 : decide (30 < (a0.size : Int)) = false := decide_eq_false c13; have c13b1 : decide (30 < a0.size) = false := decide_eq_false (by omega); clear c13; by_cases c14 : (a1.size : Int) > 30
     ·rw [if_pos c14] at H
      have c14b0 : decide (30 < (a1.size : Int)) = true := decide_eq_true c14; have c14b1 : decide (30 < a1.size) = true := decide_eq_true (by omega); clear c14; have H' := Aside0.mk H; clear H; go_wp2; go_meet
      case rel => exact ⟨_, (true), (by first | rfl | (simp; done) | (simp [*]; done) | (simp [wrap64]; done)), H', ⟨by first | omega | exact Nat.le_refl _⟩, ⟨bl⟩⟩
     ·rw [if_neg c14] at H
      have c14b0 : decide (30 < (a1.size : Int)) = false := decide_eq_false c14; have c14b1 : decide (30 < a1.size) = false := decide_eq_false (by omega); clear c14; by_cases c15 : (a2.size : Int) < 1
      ·rw [if_pos c15] at H
       have c15b0 : decide ((a2.size : Int) < 1) = true := decide_eq_true c15; have c15b1 : decide (a2.size < 1) = true := decide_eq_true (by omega); clear c15; have H' := Aside0.mk H; clear H; go_wp2; go_meet
       case rel => exact ⟨_, (true), (by first | rfl | (simp; done) | (simp [*]; done) | (simp [wrap64]; done)), H', ⟨by first | omega | exact Nat.le_refl _⟩, ⟨bl⟩⟩
      ·rw [if_neg c15] at H
       have c15b0 : decide ((a2.size : Int) < 1) = false := decide_eq_false c15; have c15b1 : decide (a2.size < 1) = false := decide_eq_false (by omega); clear c15; have H' := Aside0.mk H; clear H; go_wp2; go_meet
       case rel => exact ⟨_, (decide ((a2.size : Int) > 30)), (by first | rfl | (simp; done) | (simp [*]; done) | (simp [wrap64]; done)), H', ⟨by first | omega | exact Nat.le_refl _⟩, ⟨bl⟩⟩
  case rest =>
   clear HC10
   try clear c9
   obtain ⟨kq, x52_9, rfl, HA, HJ9, HB⟩ := hcut
   cases kq with
   | zero => exact absurd HA.out (by simp [targumlaw7_Float11Parts.j0])
   | succ kj9 =>
    have H := HA.out; clear HA; simp only [targumlaw7_Float11Parts.j0] at H; by_cases c16 : x52_9 = true
    ·subst c16
     have H1 : (some true) = some r := by rw [if_pos rfl] at H; exact H
     clear H; have H := H1; clear H1; obtain rfl := Option.some.inj H; go_wp2; go_ret
     exact ⟨by first | rfl | (simp [errW_none, errW_some] <;> rfl) | (simp [*, errW_none, errW_some] <;> rfl), bl⟩
    ·replace c16 := Bool.eq_false_iff.mpr c16
     subst c16; have H1 : (if (a0.size : Int) = 0 then (targumlaw7_Float11Parts.j1 kj9 a0 a1 a2 a3 a4 a5 a6 ((a1.size : Int) == 0)) else (targumlaw7_Float11Parts.j1 kj9 a0 a1 a2 a3 a4 a5 a6 false)) = some r := by rw [if_neg (show ¬ (false = true) by decide)] at H; exact H
     clear H; have H := H1; clear H1; have HC17 := Aside0.mk H; clear H; go_upto_region 5 with (fail)
     go_cut [60] (fun v60 wc => ∃ (kq : Nat) (x60_16 : Bool), v60 = .bool x60_16 ∧ Aside0 (targumlaw7_Float11Parts.j1 kq a0 a1 a2 a3 a4 a5 a6 x60_16 = some r) ∧ Aside0 (kq ≤ kj9) ∧ Aside0 (Below w.heap.size w wc))
     case first =>
      have H := HC17.out; clear HC17; by_cases c18 : (a0.size : Int) = 0
      ·rw [if_pos c18] at H
       have c18b0 : ((a0.size : Int) == 0) = true := beq_iff_eq.mpr c18; have c18b1 : ((a0.size : Int) != 0) = false := bne_eq_false_iff_eq.mpr c18; clear c18; (first | rw [c18b0] | (simp only [i64_w, i32_w]; rw [c18b0]) | skip); have H' := Aside0.mk H; clear H; go_wp2; go_meet
       case rel => exact ⟨_, (((a1.size : Int) == 0)), (by first | rfl | (simp; done) | (simp [*]; done) | (simp [wrap64]; done)), H', ⟨by have := HJ9.out; first | omega | exact Nat.le_refl _⟩, ⟨bl⟩⟩
      ·rw [if_neg c18] at H
       have c18b0 : ((a0.size : Int) == 0) = false := beq_eq_false_iff_ne.mpr c18; have c18b1 : ((a0.size : Int) != 0) = true := bne_iff_ne.mpr c18; (first | rw [c18b0] | (simp only [i64_w, i32_w]; rw [c18b0]) | skip); have H' := Aside0.mk H; clear H; go_wp2; go_meet
       case rel => exact ⟨_, (false), (by first | rfl | (simp; done) | (simp [*]; done) | (simp [wrap64]; done)), H', ⟨by have := HJ9.out; first | omega | exact Nat.le_refl _⟩, ⟨bl⟩⟩
     case rest =>
      clear HC17; try clear c9; try clear c16
      obtain ⟨kq, x60_16, rfl, HA, HJ16, HB⟩ := hcut; cases kq with
      | zero => exact absurd HA.out (by simp [targumlaw7_Float11Parts.j1])
      | succ kj16 =>
       have H := HA.out; clear HA; simp only [targumlaw7_Float11Parts.j1] at H; by_cases c19 : x60_16 = true
       ·subst c19
        have H1 : (some true) = some r := by rw [if_pos rfl] at H; exact H
        clear H; have H := H1; clear H1; obtain rfl := Option.some.inj H; go_wp2; go_ret
        exact ⟨by first | rfl | (simp [errW_none, errW_some] <;> rfl) | (simp [*, errW_none, errW_some] <;> rfl), bl⟩
       ·replace c19 := Bool.eq_false_iff.mpr c19
        subst c19; have H1 : ((targumlaw7_digits.f kj16 a0).bind fun t266 => (if t266.size + 1 ≤ 9223372036854775807 then ((targumlaw7_digits.f kj16 a1).bind fun t267 => (if (t266 ++ (⟨#[46]⟩ : ByteArray)).size + t267.size ≤ 9223372036854775807 then (if a5 = true then (if a6 = true then (targumlaw7_Float11Parts.j2 kj16 a0 a1 a2 a3 a4 ((t266 ++ (⟨#[46]⟩ : ByteArray)) ++ t267) (⟨#[69]⟩ : ByteArray) (⟨#[43]⟩ : ByteArray)) else (targumlaw7_Float11Parts.j2 kj16 a0 a1 a2 a3 a4 ((t266 ++ (⟨#[46]⟩ : ByteArray)) ++ t267) (⟨#[101]⟩ : ByteArray) (⟨#[43]⟩ : ByteArray))) else (targumlaw7_Float11Parts.j4 kj16 a0 a1 a3 ((t266 ++ (⟨#[46]⟩ : ByteArray)) ++ t267) (⟨#[48]⟩ : ByteArray))) else (none))) else (none))) = some r := by rw [if_neg (show ¬ (false = true) by decide)] at H; exact H
        clear H; have H := H1; clear H1; replace H := Option.bind_eq_some_iff.mp H; obtain ⟨t266, A200, H⟩ := H; replace H : (if t266.size + 1 ≤ 9223372036854775807 then ((targumlaw7_digits.f kj16 a1).bind fun t267 => (if (t266 ++ (⟨#[46]⟩ : ByteArray)).size + t267.size ≤ 9223372036854775807 then (if a5 = true then (if a6 = true then (targumlaw7_Float11Parts.j2 kj16 a0 a1 a2 a3 a4 ((t266 ++ (⟨#[46]⟩ : ByteArray)) ++ t267) (⟨#[69]⟩ : ByteArray) (⟨#[43]⟩ : ByteArray)) else (targumlaw7_Float11Parts.j2 kj16 a0 a1 a2 a3 a4 ((t266 ++ (⟨#[46]⟩ : ByteArray)) ++ t267) (⟨#[101]⟩ : ByteArray) (⟨#[43]⟩ : ByteArray))) else (targumlaw7_Float11Parts.j4 kj16 a0 a1 a3 ((t266 ++ (⟨#[46]⟩ : ByteArray)) ++ t267) (⟨#[48]⟩ : ByteArray))) else (none))) else (none)) = some r := H; have A20 := Aside0.mk A200; clear A200; by_cases c21 : t266.size + 1 ≤ 9223372036854775807
        ·rw [if_pos c21] at H
         have c21b0 := eq_true c21; have c21b1 : decide (t266.size + 1 ≤ 9223372036854775807) = true := decide_eq_true c21; try have c21b2 : (9223372036854775807 < t266.size + 1) = False := eq_false (Nat.not_lt.2 c21)
         replace H := Option.bind_eq_some_iff.mp H; obtain ⟨t267, A220, H⟩ := H; replace H : (if (t266 ++ (⟨#[46]⟩ : ByteArray)).size + t267.size ≤ 9223372036854775807 then (if a5 = true then (if a6 = true then (targumlaw7_Float11Parts.j2 kj16 a0 a1 a2 a3 a4 ((t266 ++ (⟨#[46]⟩ : ByteArray)) ++ t267) (⟨#[69]⟩ : ByteArray) (⟨#[43]⟩ : ByteArray)) else (targumlaw7_Float11Parts.j2 kj16 a0 a1 a2 a3 a4 ((t266 ++ (⟨#[46]⟩ : ByteArray)) ++ t267) (⟨#[101]⟩ : ByteArray) (⟨#[43]⟩ : ByteArray))) else (targumlaw7_Float11Parts.j4 kj16 a0 a1 a3 ((t266 ++ (⟨#[46]⟩ : ByteArray)) ++ t267) (⟨#[48]⟩ : ByteArray))) else (none)) = some r := H; have A22 := Aside0.mk A220; clear A220; by_cases c23 : (t266 ++ (⟨#[46]⟩ : ByteArray)).size + t267.size ≤ 9223372036854775807
         ·rw [if_pos c23] at H
          have c23b0 := eq_true c23; have c23b1 : decide ((t266 ++ (⟨#[46]⟩ : ByteArray)).size + t267.size ≤ 9223372036854775807) = true := decide_eq_true c23; try have c23b2 : (9223372036854775807 < (t266 ++ (⟨#[46]⟩ : ByteArray)).size + t267.size) = False := eq_false (Nat.not_lt.2 c23)
          try have c23b3 : (9223372036854775807 < t266.size + 1 + t267.size) = False := eq_false (Nat.not_lt.2 (by have z_ := c23; simp only [ByteArray.size_append, ByteArray.size_extract, Nat.min_self] at z_; exact z_))
          have HC24 := Aside0.mk H; clear H; go_upto_if 67 with (first | ((with_reducible refine gate_callee (f := 12) rfl ?_); refine goesL_ (some 62) rfl rfl Tryz.func12 (by kernel_rfl) rfl #[.string a0] rfl (by (try simp only [List.map_toArray, List.map_cons, List.map_nil]); first | done | rfl | (simp only [List.length_drop, List.length_take]; rfl)) ?_; (with_reducible refine (targumlaw7_digits.calls kj16 a0 t266 _ A20.out).mono ?_); rintro e w25 ⟨rfl, hb⟩; refine ⟨_, rfl, ?_⟩; have n0_ := Aside0.mk (below_step bl hb); clear HB; have HB := n0_; clear n0_; (try clear hb); (try clear hb2); (try clear hk); (try clear hi)) | ((with_reducible refine gate_callee (f := 12) rfl ?_); refine goesL_ (some 65) rfl rfl Tryz.func12 (by kernel_rfl) rfl #[.string a1] rfl (by (try simp only [List.map_toArray, List.map_cons, List.map_nil]); first | done | rfl | (simp only [List.length_drop, List.length_take]; rfl)) ?_; (with_reducible refine (targumlaw7_digits.calls kj16 a1 t267 _ A22.out).mono ?_); rintro e w26 ⟨rfl, hb⟩; refine ⟨_, rfl, ?_⟩; have n0_ := Aside0.mk (below_step bl hb); clear HB; have HB := n0_; clear n0_; (try clear hb); (try clear hb2); (try clear hk); (try clear hi)))
          (try simp only [Act.put, List.setIfInBounds_toArray, List.set_cons_zero, List.set_cons_succ]); go_cut [15, 16] (fun v15 v16 wc => ∃ (kq : Nat) (x15_23 : ByteArray) (x16_23 : ByteArray), v15 = .string x15_23 ∧ v16 = .string x16_23 ∧ Aside0 (targumlaw7_Float11Parts.j4 kq a0 a1 a3 x15_23 x16_23 = some r) ∧ Aside0 (kq ≤ kj16) ∧ Aside0 (Below w.heap.size w wc))
          case first =>
           have H := HC24.out; clear HC24; by_cases c27 : a5 = true
           ·subst c27
            have H1 : (if a6 = true then (targumlaw7_Float11Parts.j2 kj16 a0 a1 a2 a3 a4 ((t266 ++ (⟨#[46]⟩ : ByteArray)) ++ t267) (⟨#[69]⟩ : ByteArray) (⟨#[43]⟩ : ByteArray)) else (targumlaw7_Float11Parts.j2 kj16 a0 a1 a2 a3 a4 ((t266 ++ (⟨#[46]⟩ : ByteArray)) ++ t267) (⟨#[101]⟩ : ByteArray) (⟨#[43]⟩ : ByteArray))) = some r := by rw [if_pos rfl] at H; exact H
            clear H; have H := H1; clear H1; have HC28 := Aside0.mk H; clear H; go_upto_if 68 with (fail)
            go_cut [17] (fun v17 wc => ∃ (kq : Nat) (x17_27 : ByteArray), v17 = .string x17_27 ∧ Aside0 (targumlaw7_Float11Parts.j2 kq a0 a1 a2 a3 a4 ((t266 ++ (⟨#[46]⟩ : ByteArray)) ++ t267) x17_27 (⟨#[43]⟩ : ByteArray) = some r) ∧ Aside0 (kq ≤ kj16) ∧ Aside0 (Below w.heap.size w wc))
            case first =>
             have H := HC28.out; clear HC28; by_cases c29 : a6 = true
             ·subst c29
              have H1 : (targumlaw7_Float11Parts.j2 kj16 a0 a1 a2 a3 a4 ((t266 ++ (⟨#[46]⟩ : ByteArray)) ++ t267) (⟨#[69]⟩ : ByteArray) (⟨#[43]⟩ : ByteArray)) = some r := by rw [if_pos rfl] at H; exact H
              clear H; have H := H1; clear H1; have H' := Aside0.mk H; clear H; go_wp2; go_meet
              case rel => exact ⟨_, ((⟨#[69]⟩ : ByteArray)), (by first | rfl | (simp; done) | (simp [*]; done) | (simp [wrap64]; done)), H', ⟨by have := HJ9.out; have := HJ16.out; first | omega | exact Nat.le_refl _⟩, ⟨bl⟩⟩
             ·replace c29 := Bool.eq_false_iff.mpr c29
              subst c29; have H1 : (targumlaw7_Float11Parts.j2 kj16 a0 a1 a2 a3 a4 ((t266 ++ (⟨#[46]⟩ : ByteArray)) ++ t267) (⟨#[101]⟩ : ByteArray) (⟨#[43]⟩ : ByteArray)) = some r := by rw [if_neg (show ¬ (false = true) by decide)] at H; exact H
              clear H; have H := H1; clear H1; have H' := Aside0.mk H; clear H; go_wp2; go_meet
              case rel => exact ⟨_, ((⟨#[101]⟩ : ByteArray)), (by first | rfl | (simp; done) | (simp [*]; done) | (simp [wrap64]; done)), H', ⟨by have := HJ9.out; have := HJ16.out; first | omega | exact Nat.le_refl _⟩, ⟨bl⟩⟩
            case rest =>
             clear HC28; try clear c9; try clear c16; try clear c19; try clear c21; try clear c21b0; try clear c21b1; try clear c21b2; try clear c23; try clear c23b0; try clear c23b1; try clear c23b2; try clear c27
             obtain ⟨kq, x17_27, rfl, HA, HJ27, HB⟩ := hcut; cases kq with
             | zero => exact absurd HA.out (by simp [targumlaw7_Float11Parts.j2])
             | succ kj27 =>
              have H := HA.out; clear HA; simp only [targumlaw7_Float11Parts.j2] at H; have HC30 := Aside0.mk H; clear H; go_upto_if 69 with (fail)
              go_cut [18] (fun v18 wc => ∃ (kq : Nat) (x18_29 : ByteArray), v18 = .string x18_29 ∧ Aside0 (targumlaw7_Float11Parts.j3 kq a0 a1 a2 a3 a4 ((t266 ++ (⟨#[46]⟩ : ByteArray)) ++ t267) x17_27 x18_29 = some r) ∧ Aside0 (kq ≤ kj27) ∧ Aside0 (Below w.heap.size w wc))
              case first =>
               have H := HC30.out; clear HC30; by_cases c31 : a4 = true
               ·subst c31
                have H1 : (targumlaw7_Float11Parts.j3 kj27 a0 a1 a2 a3 true ((t266 ++ (⟨#[46]⟩ : ByteArray)) ++ t267) x17_27 (⟨#[45]⟩ : ByteArray)) = some r := by rw [if_pos rfl] at H; exact H
                clear H; have H := H1; clear H1; have H' := Aside0.mk H; clear H; go_wp2; go_meet
                case rel => exact ⟨_, ((⟨#[45]⟩ : ByteArray)), (by first | rfl | (simp; done) | (simp [*]; done) | (simp [wrap64]; done)), H', ⟨by have := HJ9.out; have := HJ16.out; have := HJ27.out; first | omega | exact Nat.le_refl _⟩, ⟨bl⟩⟩
               ·replace c31 := Bool.eq_false_iff.mpr c31
                subst c31; have H1 : (targumlaw7_Float11Parts.j3 kj27 a0 a1 a2 a3 false ((t266 ++ (⟨#[46]⟩ : ByteArray)) ++ t267) x17_27 (⟨#[43]⟩ : ByteArray)) = some r := by rw [if_neg (show ¬ (false = true) by decide)] at H; exact H
                clear H; have H := H1; clear H1; have H' := Aside0.mk H; clear H; go_wp2; go_meet
                case rel => exact ⟨_, ((⟨#[43]⟩ : ByteArray)), (by first | rfl | (simp; done) | (simp [*]; done) | (simp [wrap64]; done)), H', ⟨by have := HJ9.out; have := HJ16.out; have := HJ27.out; first | omega | exact Nat.le_refl _⟩, ⟨bl⟩⟩
              case rest =>
               clear HC30; try clear c9; try clear c16; try clear c19; try clear c21; try clear c21b0; try clear c21b1; try clear c21b2; try clear c23; try clear c23b0; try clear c23b1; try clear c23b2; try clear c27
               obtain ⟨kq, x18_29, rfl, HA, HJ29, HB⟩ := hcut; cases kq with
               | zero => exact absurd HA.out (by simp [targumlaw7_Float11Parts.j3])
               | succ kj29 =>
                have H := HA.out; clear HA; simp only [targumlaw7_Float11Parts.j3] at H; by_cases c32 : ((t266 ++ (⟨#[46]⟩ : ByteArray)) ++ t267).size + x17_27.size ≤ 9223372036854775807
                ·rw [if_pos c32] at H
                 have c32b0 := eq_true c32; have c32b1 : decide (((t266 ++ (⟨#[46]⟩ : ByteArray)) ++ t267).size + x17_27.size ≤ 9223372036854775807) = true := decide_eq_true c32; try have c32b2 : (9223372036854775807 < ((t266 ++ (⟨#[46]⟩ : ByteArray)) ++ t267).size + x17_27.size) = False := eq_false (Nat.not_lt.2 c32)
                 try have c32b3 : (9223372036854775807 < t266.size + 1 + t267.size + x17_27.size) = False := eq_false (Nat.not_lt.2 (by have z_ := c32; simp only [ByteArray.size_append, ByteArray.size_extract, Nat.min_self] at z_; exact z_))
                 replace H := Option.bind_eq_some_iff.mp H; obtain ⟨t268, A330, H⟩ := H; replace H : (if (((t266 ++ (⟨#[46]⟩ : ByteArray)) ++ t267) ++ x17_27).size + t268.size ≤ 9223372036854775807 then ((float11_Is.f kj29 ((((t266 ++ (⟨#[46]⟩ : ByteArray)) ++ t267) ++ x17_27) ++ t268)).bind fun t269 => (if t269 = true then (some false) else (if (((t266 ++ (⟨#[46]⟩ : ByteArray)) ++ t267) ++ x17_27).size + x18_29.size ≤ 9223372036854775807 then ((targumlaw7_digits.f kj29 a2).bind fun t270 => (if ((((t266 ++ (⟨#[46]⟩ : ByteArray)) ++ t267) ++ x17_27) ++ x18_29).size + t270.size ≤ 9223372036854775807 then ((targumlaw7_digits.f kj29 a2).bind fun t271 => ((targumref4_Norm.f kj29 a4 t271).bind fun t272 => (targumlaw7_Float11Parts.j4 kj29 a0 a1 a3 (((((t266 ++ (⟨#[46]⟩ : ByteArray)) ++ t267) ++ x17_27) ++ x18_29) ++ t270) t272))) else (none))) else (none)))) else (none)) = some r := H; have A33 := Aside0.mk A330; clear A330; by_cases c34 : (((t266 ++ (⟨#[46]⟩ : ByteArray)) ++ t267) ++ x17_27).size + t268.size ≤ 9223372036854775807
                 ·rw [if_pos c34] at H
                  have c34b0 := eq_true c34; have c34b1 : decide ((((t266 ++ (⟨#[46]⟩ : ByteArray)) ++ t267) ++ x17_27).size + t268.size ≤ 9223372036854775807) = true := decide_eq_true c34; try have c34b2 : (9223372036854775807 < (((t266 ++ (⟨#[46]⟩ : ByteArray)) ++ t267) ++ x17_27).size + t268.size) = False := eq_false (Nat.not_lt.2 c34)
                  try have c34b3 : (9223372036854775807 < t266.size + 1 + t267.size + x17_27.size + t268.size) = False := eq_false (Nat.not_lt.2 (by have z_ := c34; simp only [ByteArray.size_append, ByteArray.size_extract, Nat.min_self] at z_; exact z_))
                  replace H := Option.bind_eq_some_iff.mp H; obtain ⟨t269, A350, H⟩ := H; replace H : (if t269 = true then (some false) else (if (((t266 ++ (⟨#[46]⟩ : ByteArray)) ++ t267) ++ x17_27).size + x18_29.size ≤ 9223372036854775807 then ((targumlaw7_digits.f kj29 a2).bind fun t270 => (if ((((t266 ++ (⟨#[46]⟩ : ByteArray)) ++ t267) ++ x17_27) ++ x18_29).size + t270.size ≤ 9223372036854775807 then ((targumlaw7_digits.f kj29 a2).bind fun t271 => ((targumref4_Norm.f kj29 a4 t271).bind fun t272 => (targumlaw7_Float11Parts.j4 kj29 a0 a1 a3 (((((t266 ++ (⟨#[46]⟩ : ByteArray)) ++ t267) ++ x17_27) ++ x18_29) ++ t270) t272))) else (none))) else (none))) = some r := H; have A35 := Aside0.mk A350; clear A350; by_cases c36 : t269 = true
                  ·subst c36
                   have H1 : (some false) = some r := by rw [if_pos rfl] at H; exact H
                   clear H; have H := H1; clear H1; obtain rfl := Option.some.inj H; go_wp2_with (first | ((with_reducible refine gate_callee (f := 12) rfl ?_); refine goesL_ (some 74) rfl rfl Tryz.func12 (by kernel_rfl) rfl #[.string a2] rfl (by (try simp only [List.map_toArray, List.map_cons, List.map_nil]); first | done | rfl | (simp only [List.length_drop, List.length_take]; rfl)) ?_; (with_reducible refine (targumlaw7_digits.calls kj29 a2 t268 _ A33.out).mono ?_); rintro e w37 ⟨rfl, hb⟩; refine ⟨_, rfl, ?_⟩; have n0_ := Aside0.mk (below_step bl hb); clear HB; have HB := n0_; clear n0_; (try clear hb); (try clear hb2); (try clear hk); (try clear hi)) | ((with_reducible refine gate_callee (f := 10) rfl ?_); refine goesL_ (some 76) rfl rfl Tryz.func10 (by kernel_rfl) rfl #[.string ((((t266 ++ (⟨#[46]⟩ : ByteArray)) ++ t267) ++ x17_27) ++ t268)] rfl (by (try simp only [List.map_toArray, List.map_cons, List.map_nil]); first | done | rfl | (simp only [List.length_drop, List.length_take]; rfl)) ?_; (with_reducible refine (float11_Is.calls kj29 ((((t266 ++ (⟨#[46]⟩ : ByteArray)) ++ t267) ++ x17_27) ++ t268) true _ A35.out).mono ?_); rintro e w38 ⟨rfl, hb⟩; refine ⟨_, rfl, ?_⟩; have n0_ := Aside0.mk (below_step bl hb); clear HB; have HB := n0_; clear n0_; (try clear hb); (try clear hb2); (try clear hk); (try clear hi))); go_ret
                   exact ⟨by first | rfl | (simp [errW_none, errW_some] <;> rfl) | (simp [*, errW_none, errW_some] <;> rfl), bl⟩
                  ·replace c36 := Bool.eq_false_iff.mpr c36
                   subst c36; have H1 : (if (((t266 ++ (⟨#[46]⟩ : ByteArray)) ++ t267) ++ x17_27).size + x18_29.size ≤ 9223372036854775807 then ((targumlaw7_digits.f kj29 a2).bind fun t270 => (if ((((t266 ++ (⟨#[46]⟩ : ByteArray)) ++ t267) ++ x17_27) ++ x18_29).size + t270.size ≤ 9223372036854775807 then ((targumlaw7_digits.f kj29 a2).bind fun t271 => ((targumref4_Norm.f kj29 a4 t271).bind fun t272 => (targumlaw7_Float11Parts.j4 kj29 a0 a1 a3 (((((t266 ++ (⟨#[46]⟩ : ByteArray)) ++ t267) ++ x17_27) ++ x18_29) ++ t270) t272))) else (none))) else (none)) = some r := by rw [if_neg (show ¬ (false = true) by decide)] at H; exact H
                   clear H; have H := H1; clear H1; by_cases c39 : (((t266 ++ (⟨#[46]⟩ : ByteArray)) ++ t267) ++ x17_27).size + x18_29.size ≤ 9223372036854775807
                   ·rw [if_pos c39] at H
                    have c39b0 := eq_true c39; have c39b1 : decide ((((t266 ++ (⟨#[46]⟩ : ByteArray)) ++ t267) ++ x17_27).size + x18_29.size ≤ 9223372036854775807) = true := decide_eq_true c39; try have c39b2 : (9223372036854775807 < (((t266 ++ (⟨#[46]⟩ : ByteArray)) ++ t267) ++ x17_27).size + x18_29.size) = False := eq_false (Nat.not_lt.2 c39)
                    try have c39b3 : (9223372036854775807 < t266.size + 1 + t267.size + x17_27.size + x18_29.size) = False := eq_false (Nat.not_lt.2 (by have z_ := c39; simp only [ByteArray.size_append, ByteArray.size_extract, Nat.min_self] at z_; exact z_))
                    replace H := Option.bind_eq_some_iff.mp H; obtain ⟨t270, A400, H⟩ := H; replace H : (if ((((t266 ++ (⟨#[46]⟩ : ByteArray)) ++ t267) ++ x17_27) ++ x18_29).size + t270.size ≤ 9223372036854775807 then ((targumlaw7_digits.f kj29 a2).bind fun t271 => ((targumref4_Norm.f kj29 a4 t271).bind fun t272 => (targumlaw7_Float11Parts.j4 kj29 a0 a1 a3 (((((t266 ++ (⟨#[46]⟩ : ByteArray)) ++ t267) ++ x17_27) ++ x18_29) ++ t270) t272))) else (none)) = some r := H; have A40 := Aside0.mk A400; clear A400; by_cases c41 : ((((t266 ++ (⟨#[46]⟩ : ByteArray)) ++ t267) ++ x17_27) ++ x18_29).size + t270.size ≤ 9223372036854775807
                    ·rw [if_pos c41] at H
                     have c41b0 := eq_true c41; have c41b1 : decide (((((t266 ++ (⟨#[46]⟩ : ByteArray)) ++ t267) ++ x17_27) ++ x18_29).size + t270.size ≤ 9223372036854775807) = true := decide_eq_true c41; try have c41b2 : (9223372036854775807 < ((((t266 ++ (⟨#[46]⟩ : ByteArray)) ++ t267) ++ x17_27) ++ x18_29).size + t270.size) = False := eq_false (Nat.not_lt.2 c41)
                     try have c41b3 : (9223372036854775807 < t266.size + 1 + t267.size + x17_27.size + x18_29.size + t270.size) = False := eq_false (Nat.not_lt.2 (by have z_ := c41; simp only [ByteArray.size_append, ByteArray.size_extract, Nat.min_self] at z_; exact z_))
                     replace H := Option.bind_eq_some_iff.mp H; obtain ⟨t271, A420, H⟩ := H; replace H : ((targumref4_Norm.f kj29 a4 t271).bind fun t272 => (targumlaw7_Float11Parts.j4 kj29 a0 a1 a3 (((((t266 ++ (⟨#[46]⟩ : ByteArray)) ++ t267) ++ x17_27) ++ x18_29) ++ t270) t272)) = some r := H; have A42 := Aside0.mk A420; clear A420; replace H := Option.bind_eq_some_iff.mp H; obtain ⟨t272, A430, H⟩ := H; replace H : (targumlaw7_Float11Parts.j4 kj29 a0 a1 a3 (((((t266 ++ (⟨#[46]⟩ : ByteArray)) ++ t267) ++ x17_27) ++ x18_29) ++ t270) t272) = some r := H; have A43 := Aside0.mk A430; clear A430; have H' := Aside0.mk H; clear H
                     go_wp2_with (first | ((with_reducible refine gate_callee (f := 12) rfl ?_); refine goesL_ (some 74) rfl rfl Tryz.func12 (by kernel_rfl) rfl #[.string a2] rfl (by (try simp only [List.map_toArray, List.map_cons, List.map_nil]); first | done | rfl | (simp only [List.length_drop, List.length_take]; rfl)) ?_; (with_reducible refine (targumlaw7_digits.calls kj29 a2 t268 _ A33.out).mono ?_); rintro e w44 ⟨rfl, hb⟩; refine ⟨_, rfl, ?_⟩; have n0_ := Aside0.mk (below_step bl hb); clear HB; have HB := n0_; clear n0_; (try clear hb); (try clear hb2); (try clear hk); (try clear hi); clear A33) | ((with_reducible refine gate_callee (f := 10) rfl ?_); refine goesL_ (some 76) rfl rfl Tryz.func10 (by kernel_rfl) rfl #[.string ((((t266 ++ (⟨#[46]⟩ : ByteArray)) ++ t267) ++ x17_27) ++ t268)] rfl (by (try simp only [List.map_toArray, List.map_cons, List.map_nil]); first | done | rfl | (simp only [List.length_drop, List.length_take]; rfl)) ?_; (with_reducible refine (float11_Is.calls kj29 ((((t266 ++ (⟨#[46]⟩ : ByteArray)) ++ t267) ++ x17_27) ++ t268) false _ A35.out).mono ?_); rintro e w45 ⟨rfl, hb⟩; refine ⟨_, rfl, ?_⟩; have n0_ := Aside0.mk (below_step bl hb); clear HB; have HB := n0_; clear n0_; (try clear hb); (try clear hb2); (try clear hk); (try clear hi)) | ((with_reducible refine gate_callee (f := 12) rfl ?_); refine goesL_ (some 83) rfl rfl Tryz.func12 (by kernel_rfl) rfl #[.string a2] rfl (by (try simp only [List.map_toArray, List.map_cons, List.map_nil]); first | done | rfl | (simp only [List.length_drop, List.length_take]; rfl)) ?_; (with_reducible refine (targumlaw7_digits.calls kj29 a2 t270 _ A40.out).mono ?_); rintro e w46 ⟨rfl, hb⟩; refine ⟨_, rfl, ?_⟩; have n0_ := Aside0.mk (below_step bl hb); clear HB; have HB := n0_; clear n0_; (try clear hb); (try clear hb2); (try clear hk); (try clear hi); clear A40) | ((with_reducible refine gate_callee (f := 12) rfl ?_); refine goesL_ (some 87) rfl rfl Tryz.func12 (by kernel_rfl) rfl #[.string a2] rfl (by (try simp only [List.map_toArray, List.map_cons, List.map_nil]); first | done | rfl | (simp only [List.length_drop, List.length_take]; rfl)) ?_; (with_reducible refine (targumlaw7_digits.calls kj29 a2 t271 _ A42.out).mono ?_); rintro e w47 ⟨rfl, hb⟩; refine ⟨_, rfl, ?_⟩; have n0_ := Aside0.mk (below_step bl hb); clear HB; have HB := n0_; clear n0_; (try clear hb); (try clear hb2); (try clear hk); (try clear hi); clear A42) | ((with_reducible refine gate_callee (f := 13) rfl ?_); refine goesL_ (some 88) rfl rfl Tryz.func13 (by kernel_rfl) rfl #[.bool a4, .string t271] rfl (by (try simp only [List.map_toArray, List.map_cons, List.map_nil]); first | done | rfl | (simp only [List.length_drop, List.length_take]; rfl)) ?_; (with_reducible refine (targumref4_Norm.calls kj29 a4 t271 t272 _ A43.out).mono ?_); rintro e w' ⟨rfl, ⟨nd, rfl⟩⟩; refine ⟨_, rfl, ?_⟩)); go_meet
                     case rel => exact ⟨_, (((((t266 ++ (⟨#[46]⟩ : ByteArray)) ++ t267) ++ x17_27) ++ x18_29) ++ t270), (t272), (by first | rfl | (simp; done) | (simp [*]; done) | (simp [wrap64]; done)), (by first | rfl | (simp; done) | (simp [*]; done) | (simp [wrap64]; done)), H', ⟨by have := HJ9.out; have := HJ16.out; have := HJ27.out; have := HJ29.out; first | omega | exact Nat.le_refl _⟩, ⟨bl⟩⟩
                    ·rw [if_neg c41] at H
                     exact absurd H (by simp)
                   ·rw [if_neg c39] at H
                    exact absurd H (by simp)
                 ·rw [if_neg c34] at H
                  exact absurd H (by simp)
                ·rw [if_neg c32] at H
                 exact absurd H (by simp)
           ·replace c27 := Bool.eq_false_iff.mpr c27
            subst c27; have H1 : (targumlaw7_Float11Parts.j4 kj16 a0 a1 a3 ((t266 ++ (⟨#[46]⟩ : ByteArray)) ++ t267) (⟨#[48]⟩ : ByteArray)) = some r := by rw [if_neg (show ¬ (false = true) by decide)] at H; exact H
            clear H; have H := H1; clear H1; have H' := Aside0.mk H; clear H; go_wp2; go_meet
            case rel => exact ⟨_, ((t266 ++ (⟨#[46]⟩ : ByteArray)) ++ t267), ((⟨#[48]⟩ : ByteArray)), (by first | rfl | (simp; done) | (simp [*]; done) | (simp [wrap64]; done)), (by first | rfl | (simp; done) | (simp [*]; done) | (simp [wrap64]; done)), H', ⟨by have := HJ9.out; have := HJ16.out; first | omega | exact Nat.le_refl _⟩, ⟨bl⟩⟩
          case rest =>
           clear HC24; try clear c9; try clear c16; try clear c19; try clear c21; try clear c21b0; try clear c21b1; try clear c21b2; try clear c23; try clear c23b0; try clear c23b1; try clear c23b2
           obtain ⟨kq, x15_23, x16_23, rfl, rfl, HA, HJ23, HB⟩ := hcut; cases kq with
           | zero => exact absurd HA.out (by simp [targumlaw7_Float11Parts.j4])
           | succ kj23 =>
            have H := HA.out; clear HA; simp only [targumlaw7_Float11Parts.j4] at H; replace H := Option.bind_eq_some_iff.mp H; obtain ⟨t273, A480, H⟩ := H; replace H : ((targumlaw7_digits.f kj23 a1).bind fun t274 => ((targumref4_Make.f kj23 a3 t273 t274 x16_23).bind fun bt275 => (if (a0.size : Int) = 0 then (targumlaw7_Float11Parts.j5 kj23 a3 x15_23 2 bt275.1 bt275.2.1 bt275.2.2.1 bt275.2.2.2.1) else (targumlaw7_Float11Parts.j5 kj23 a3 x15_23 1 bt275.1 bt275.2.1 bt275.2.2.1 bt275.2.2.2.1)))) = some r := H; have A48 := Aside0.mk A480; clear A480; replace H := Option.bind_eq_some_iff.mp H; obtain ⟨t274, A490, H⟩ := H; replace H : ((targumref4_Make.f kj23 a3 t273 t274 x16_23).bind fun bt275 => (if (a0.size : Int) = 0 then (targumlaw7_Float11Parts.j5 kj23 a3 x15_23 2 bt275.1 bt275.2.1 bt275.2.2.1 bt275.2.2.2.1) else (targumlaw7_Float11Parts.j5 kj23 a3 x15_23 1 bt275.1 bt275.2.1 bt275.2.2.1 bt275.2.2.2.1))) = some r := H; have A49 := Aside0.mk A490; clear A490; replace H := Option.bind_eq_some_iff.mp H; obtain ⟨⟨t275, t276, t277, t278, t279⟩, A500, H⟩ := H; replace H : (if (a0.size : Int) = 0 then (targumlaw7_Float11Parts.j5 kj23 a3 x15_23 2 t275 t276 t277 t278) else (targumlaw7_Float11Parts.j5 kj23 a3 x15_23 1 t275 t276 t277 t278)) = some r := H; have A50 := Aside0.mk A500; clear A500; have HC51 := Aside0.mk H; clear H
            go_upto_if 101 with (first | ((with_reducible refine gate_callee (f := 12) rfl ?_); refine goesL_ (some 92) rfl rfl Tryz.func12 (by kernel_rfl) rfl #[.string a0] rfl (by (try simp only [List.map_toArray, List.map_cons, List.map_nil]); first | done | rfl | (simp only [List.length_drop, List.length_take]; rfl)) ?_; (with_reducible refine (targumlaw7_digits.calls kj23 a0 t273 _ A48.out).mono ?_); rintro e w52 ⟨rfl, hb⟩; refine ⟨_, rfl, ?_⟩; have n0_ := Aside0.mk (below_step bl hb); clear HB; have HB := n0_; clear n0_; (try clear hb); (try clear hb2); (try clear hk); (try clear hi)) | ((with_reducible refine gate_callee (f := 12) rfl ?_); refine goesL_ (some 94) rfl rfl Tryz.func12 (by kernel_rfl) rfl #[.string a1] rfl (by (try simp only [List.map_toArray, List.map_cons, List.map_nil]); first | done | rfl | (simp only [List.length_drop, List.length_take]; rfl)) ?_; (with_reducible refine (targumlaw7_digits.calls kj23 a1 t274 _ A49.out).mono ?_); rintro e w53 ⟨rfl, hb⟩; refine ⟨_, rfl, ?_⟩; have n0_ := Aside0.mk (below_step bl hb); clear HB; have HB := n0_; clear n0_; (try clear hb); (try clear hb2); (try clear hk); (try clear hi)) | ((with_reducible refine gate_callee (f := 14) rfl ?_); refine goesL_ (some 96) rfl rfl Tryz.func14 (by kernel_rfl) rfl #[.bool a3, .string t273, .string t274, .string x16_23] rfl (by (try simp only [List.map_toArray, List.map_cons, List.map_nil]); first | done | rfl | (simp only [List.length_drop, List.length_take]; rfl)) ?_; (with_reducible refine (targumref4_Make.calls kj23 a3 t273 t274 x16_23 t275 t276 t277 t278 t279 _ A50.out).mono ?_); rintro e w54 ⟨rfl, hb⟩; refine ⟨_, rfl, ?_⟩; have n0_ := Aside0.mk (below_step bl hb); clear HB; have HB := n0_; clear n0_; (try clear hb); (try clear hb2); (try clear hk); (try clear hi)) | ((with_reducible refine gate_dst (N := 19) rfl ?_); (try (refine gate_guard (by rfl) ?_; dsimp only)); refine box_event ?hg (N := 19) ?hd (cs := #[.int .i64 0, .bool false, .string (⟨#[]⟩ : ByteArray), .string (⟨#[]⟩ : ByteArray)]) (t := 26) ?hr ?_; (case hd => rfl); (case hg => rfl); (case hr => first | (go_simp; done) | (go_simp; rfl)); intro gb280 hg w55 hbox hb; have n0_ := Aside0.mk (below_step bl hb); have n1_ := Aside0.mk (hbox); have n2_ := Aside0.mk ((by rw [hg]; exact (below_size bl) : w.heap.size ≤ gb280)); have n3_ := Aside0.mk ((by rw [hg]; exact (below_size bl) : w.heap.size ≤ gb280)); clear HB; have HB := n0_; have BK280 := n1_; have GW280 := n2_; have GE280 := n3_; clear n0_ n1_ n2_ n3_; clear hb hbox hg; have hcz56_0 : w55.cell? ⟨gb280, 0, none⟩ = some (.int .i64 0) := (blk_cell BK280.out 0).trans rfl; have hcz56_1 : w55.cell? ⟨gb280, 1, none⟩ = some (.bool false) := (blk_cell BK280.out 1).trans rfl; have hcz56_2 : w55.cell? ⟨gb280, 2, none⟩ = some (.string (⟨#[]⟩ : ByteArray)) := (blk_cell BK280.out 2).trans rfl; have hcz56_3 : w55.cell? ⟨gb280, 3, none⟩ = some (.string (⟨#[]⟩ : ByteArray)) := (blk_cell BK280.out 3).trans rfl; have hfz56_0 := blk_frozen BK280.out 0; have hfz56_1 := blk_frozen BK280.out 1; have hfz56_2 := blk_frozen BK280.out 2; have hfz56_3 := blk_frozen BK280.out 3))
            (try simp only [Act.put, List.setIfInBounds_toArray, List.set_cons_zero, List.set_cons_succ]); go_cut [21] (fun v21 wc => ∃ (kq : Nat) (x21_50 : Int), v21 = .int .i64 x21_50 ∧ Aside0 (targumlaw7_Float11Parts.j5 kq a3 x15_23 x21_50 t275 t276 t277 t278 = some r) ∧ Aside0 (kq ≤ kj23) ∧ Aside0 (wc.heap[gb280]? = some (.cells #[.int .i64 t275, .bool t276, .string t277, .string t278] 26 (0, 0))) ∧ Aside0 (Below w.heap.size w wc))
            case first =>
             have H := HC51.out; clear HC51; by_cases c57 : (a0.size : Int) = 0
             ·rw [if_pos c57] at H
              have c57b0 : ((a0.size : Int) == 0) = true := beq_iff_eq.mpr c57; have c57b1 : ((a0.size : Int) != 0) = false := bne_eq_false_iff_eq.mpr c57; clear c57; (first | rw [c57b0] | (simp only [i64_w, i32_w]; rw [c57b0]) | skip); have H' := Aside0.mk H; clear H; go_wp2; go_meet
              case rel => exact ⟨_, (2), (by first | rfl | (simp; done) | (simp [*]; done) | (simp [wrap64]; done)), H', ⟨by have := HJ9.out; have := HJ16.out; have := HJ23.out; first | omega | exact Nat.le_refl _⟩, ⟨by (with_reducible repeat (first | refine blk_drewN ?_ _ | refine blk_drew ?_ | refine blk_alloc ?_ _)); refine blk_put (cs := #[.int .i64 t275, .bool t276, .string t277, .string (⟨#[]⟩ : ByteArray)]) ?_ 3 _ rfl; (with_reducible repeat (first | refine blk_drewN ?_ _ | refine blk_drew ?_ | refine blk_alloc ?_ _)); refine blk_put (cs := #[.int .i64 t275, .bool t276, .string (⟨#[]⟩ : ByteArray), .string (⟨#[]⟩ : ByteArray)]) ?_ 2 _ rfl; (with_reducible repeat (first | refine blk_drewN ?_ _ | refine blk_drew ?_ | refine blk_alloc ?_ _)); refine blk_put (cs := #[.int .i64 t275, .bool false, .string (⟨#[]⟩ : ByteArray), .string (⟨#[]⟩ : ByteArray)]) ?_ 1 _ rfl; (with_reducible repeat (first | refine blk_drewN ?_ _ | refine blk_drew ?_ | refine blk_alloc ?_ _)); refine blk_put (cs := #[.int .i64 0, .bool false, .string (⟨#[]⟩ : ByteArray), .string (⟨#[]⟩ : ByteArray)]) ?_ 0 _ rfl; (with_reducible repeat (first | refine blk_drewN ?_ _ | refine blk_drew ?_ | refine blk_alloc ?_ _)); exact BK280.out⟩, ⟨bl⟩⟩
             ·rw [if_neg c57] at H
              have c57b0 : ((a0.size : Int) == 0) = false := beq_eq_false_iff_ne.mpr c57; have c57b1 : ((a0.size : Int) != 0) = true := bne_iff_ne.mpr c57; (first | rw [c57b0] | (simp only [i64_w, i32_w]; rw [c57b0]) | skip); have H' := Aside0.mk H; clear H; go_wp2; go_meet
              case rel => exact ⟨_, (1), (by first | rfl | (simp; done) | (simp [*]; done) | (simp [wrap64]; done)), H', ⟨by have := HJ9.out; have := HJ16.out; have := HJ23.out; first | omega | exact Nat.le_refl _⟩, ⟨by (with_reducible repeat (first | refine blk_drewN ?_ _ | refine blk_drew ?_ | refine blk_alloc ?_ _)); refine blk_put (cs := #[.int .i64 t275, .bool t276, .string t277, .string (⟨#[]⟩ : ByteArray)]) ?_ 3 _ rfl; (with_reducible repeat (first | refine blk_drewN ?_ _ | refine blk_drew ?_ | refine blk_alloc ?_ _)); refine blk_put (cs := #[.int .i64 t275, .bool t276, .string (⟨#[]⟩ : ByteArray), .string (⟨#[]⟩ : ByteArray)]) ?_ 2 _ rfl; (with_reducible repeat (first | refine blk_drewN ?_ _ | refine blk_drew ?_ | refine blk_alloc ?_ _)); refine blk_put (cs := #[.int .i64 t275, .bool false, .string (⟨#[]⟩ : ByteArray), .string (⟨#[]⟩ : ByteArray)]) ?_ 1 _ rfl; (with_reducible repeat (first | refine blk_drewN ?_ _ | refine blk_drew ?_ | refine blk_alloc ?_ _)); refine blk_put (cs := #[.int .i64 0, .bool false, .string (⟨#[]⟩ : ByteArray), .string (⟨#[]⟩ : ByteArray)]) ?_ 0 _ rfl; (with_reducible repeat (first | refine blk_drewN ?_ _ | refine blk_drew ?_ | refine blk_alloc ?_ _)); exact BK280.out⟩, ⟨bl⟩⟩
            case rest =>
             clear HC51; try clear c9; try clear c16; try clear c19; try clear c21; try clear c21b0; try clear c21b1; try clear c21b2; try clear c23; try clear c23b0; try clear c23b1; try clear c23b2; try clear hcz56_0; try clear hcz56_1; try clear hcz56_2; try clear hcz56_3; try clear hfz56_0; try clear hfz56_1; try clear hfz56_2; try clear hfz56_3
             obtain ⟨kq, x21_50, rfl, HA, HJ50, BK280, HB⟩ := hcut; cases kq with
             | zero => exact absurd HA.out (by simp [targumlaw7_Float11Parts.j5])
             | succ kj50 =>
              have H := HA.out; clear HA; simp only [targumlaw7_Float11Parts.j5] at H; by_cases c58 : a3 = true
              ·subst c58
               have H1 : (if 1 + x15_23.size ≤ 9223372036854775807 then ((float11_Of.f kj50 ((⟨#[45]⟩ : ByteArray) ++ x15_23)).bind fun bt281 => (if bt281.2.2.2.2 = true then (if (bt281.1 == t275 && (bt281.2.1 == t276 && (bt281.2.2.1.toList == t277.toList && (bt281.2.2.2.1.toList == t278.toList)))) = true then ((float11_Form.f kj50 x15_23).bind fun t287 => (if t287 = x21_50 then ((float11_Form.f kj50 ((⟨#[45]⟩ : ByteArray) ++ x15_23)).bind fun t288 => (some (t288 == x21_50))) else (some false))) else (some false)) else (some false))) else (none)) = some r := by rw [if_pos rfl] at H; exact H
               clear H; have H := H1; clear H1; by_cases c59 : 1 + x15_23.size ≤ 9223372036854775807
               ·rw [if_pos c59] at H
                have c59b0 := eq_true c59; have c59b1 : decide (1 + x15_23.size ≤ 9223372036854775807) = true := decide_eq_true c59; try have c59b2 : (9223372036854775807 < 1 + x15_23.size) = False := eq_false (Nat.not_lt.2 c59)
                replace H := Option.bind_eq_some_iff.mp H; obtain ⟨⟨t281, t282, t283, t284, t285⟩, A600, H⟩ := H; replace H : (if t285 = true then (if (t281 == t275 && (t282 == t276 && (t283.toList == t277.toList && (t284.toList == t278.toList)))) = true then ((float11_Form.f kj50 x15_23).bind fun t287 => (if t287 = x21_50 then ((float11_Form.f kj50 ((⟨#[45]⟩ : ByteArray) ++ x15_23)).bind fun t288 => (some (t288 == x21_50))) else (some false))) else (some false)) else (some false)) = some r := H; have A60 := Aside0.mk A600; clear A600; refine Classical.byCases (p := (t285 = true)) (fun c61 => ?x4) (fun c61 => ?y4)
                case' x4 =>
                 subst c61; have H1 : (if (t281 == t275 && (t282 == t276 && (t283.toList == t277.toList && (t284.toList == t278.toList)))) = true then ((float11_Form.f kj50 x15_23).bind fun t287 => (if t287 = x21_50 then ((float11_Form.f kj50 ((⟨#[45]⟩ : ByteArray) ++ x15_23)).bind fun t288 => (some (t288 == x21_50))) else (some false))) else (some false)) = some r := by rw [if_pos rfl] at H; exact H
                 clear H; have H := H1; clear H1; refine Classical.byCases (p := ((t281 == t275 && (t282 == t276 && (t283.toList == t277.toList && (t284.toList == t278.toList)))) = true)) (fun c62 => ?x5) (fun c62 => ?y5)
                 case' x5 =>
                  rw [if_pos c62] at H; have c62b0 : (t281 == t275 && (t282 == t276 && (t283.toList == t277.toList && (t284.toList == t278.toList)))) = true := c62; (try (have c62b1 : decide (t281 = t275 && (t282 == t276 && (t283.toList == t277.toList && (t284.toList == t278.toList)))) = true := by simpa using c62)); (try (have c62b2 : (t281 == t275 && (t282 == t276 && (t283.toList == t277.toList && (t284.toList == t278.toList)))) = true := by simpa using c62)); clear c62; replace H := Option.bind_eq_some_iff.mp H; obtain ⟨t287, A630, H⟩ := H; replace H : (if t287 = x21_50 then ((float11_Form.f kj50 ((⟨#[45]⟩ : ByteArray) ++ x15_23)).bind fun t288 => (some (t288 == x21_50))) else (some false)) = some r := H; have A63 := Aside0.mk A630; clear A630; refine Classical.byCases (p := (t287 = x21_50)) (fun c64 => ?x6) (fun c64 => ?y6)
                  case' x6 =>
                   rw [if_pos c64] at H; have c64b0 : (t287 == x21_50) = true := beq_iff_eq.mpr c64; have c64b1 : (t287 != x21_50) = false := bne_eq_false_iff_eq.mpr c64; clear c64; replace H := Option.bind_eq_some_iff.mp H; obtain ⟨t288, A650, H⟩ := H; replace H : (some (t288 == x21_50)) = some r := H; have A65 := Aside0.mk A650; clear A650; obtain rfl := Option.some.inj H; skip
                  case' y6 =>
                   rw [if_neg c64] at H; have c64b0 : (t287 == x21_50) = false := beq_eq_false_iff_ne.mpr c64; have c64b1 : (t287 != x21_50) = true := bne_iff_ne.mpr c64; obtain rfl := Option.some.inj H; skip
                 case' y5 =>
                  rw [if_neg c62] at H; have c62b0 : (t281 == t275 && (t282 == t276 && (t283.toList == t277.toList && (t284.toList == t278.toList)))) = false := by simpa using c62
                  (try (have c62b1 : decide (t281 = t275 && (t282 == t276 && (t283.toList == t277.toList && (t284.toList == t278.toList)))) = false := by simpa using c62)); (try (have c62b2 : (t281 == t275 && (t282 == t276 && (t283.toList == t277.toList && (t284.toList == t278.toList)))) = false := by simpa using c62)); (try (have c62b3 : ¬ (t281 = t275 && (t282 == t276 && (t283.toList == t277.toList && (t284.toList == t278.toList)))) := by simpa using c62)); clear c62; obtain rfl := Option.some.inj H; skip
                case' y4 =>
                 replace c61 := Bool.eq_false_iff.mpr c61; subst c61; have H1 : (some false) = some r := by rw [if_neg (show ¬ (false = true) by decide)] at H; exact H
                 clear H; have H := H1; clear H1; obtain rfl := Option.some.inj H; skip
                case x6 | y6 | y5 | y4 =>
                 as_aux_lemma =>
                  go_wp2_with (first | ((with_reducible refine gate_callee (f := 8) rfl ?_); refine goesL_ (some 107) rfl rfl Tryz.func8 (by kernel_rfl) rfl #[.string ((⟨#[45]⟩ : ByteArray) ++ x15_23)] rfl (by (try simp only [List.map_toArray, List.map_cons, List.map_nil]); first | done | rfl | (simp only [List.length_drop, List.length_take]; rfl)) ?_; (with_reducible refine (float11_Of.calls _ _ _ _ _ _ _ _ ?side1 A60.out).mono ?_); (case side1 => exact Go.Proofs.YtkijneohhilboaaGreatDoor.PKT.Tabs_below HG.out bl); rintro e w66 ⟨rfl, hb⟩; refine ⟨_, rfl, ?_⟩; have n0_ := Aside0.mk (blk_below (g := gb280) (o := .cells #[.int .i64 t275, .bool t276, .string t277, .string t278] 26 (0, 0)) bk hb); have n1_ := Aside0.mk (below_step bl hb); clear BK280; clear HB; have BK280 := n0_; have HB := n1_; clear n0_ n1_; (try clear hb); (try clear hb2); (try clear hk); (try clear hi)) | ((with_reducible refine gate_dst (N := 23) rfl ?_); (try (refine gate_guard (by rfl) ?_; dsimp only)); refine box_event ?hg (N := 23) ?hd (cs := #[.int .i64 0, .bool false, .string (⟨#[]⟩ : ByteArray), .string (⟨#[]⟩ : ByteArray)]) (t := 26) ?hr ?_; (case hd => rfl); (case hg => rfl); (case hr => first | (go_simp; done) | (go_simp; rfl)); intro gb286 hg w67 hbox hb; have n0_ := Aside0.mk (blk_below (g := gb280) (o := .cells #[.int .i64 t275, .bool t276, .string t277, .string t278] 26 (0, 0)) bk hb); have n1_ := Aside0.mk (below_step bl hb); have n2_ := Aside0.mk (hbox); have n3_ := Aside0.mk ((by rw [hg]; exact (below_size bl) : w.heap.size ≤ gb286)); have n4_ := Aside0.mk ((by rw [hg]; exact (below_size bl) : w.heap.size ≤ gb286)); have n5_ := Aside0.mk ((by rw [hg]; exact Nat.ne_of_lt (blk_lt (g := gb280) (o := .cells #[.int .i64 t275, .bool t276, .string t277, .string t278] 26 (0, 0)) bk) : gb280 ≠ gb286)); have n6_ := Aside0.mk ((by rw [hg]; exact Nat.ne_of_gt (blk_lt (g := gb280) (o := .cells #[.int .i64 t275, .bool t276, .string t277, .string t278] 26 (0, 0)) bk) : gb286 ≠ gb280)); clear BK280; clear HB; have BK280 := n0_; have HB := n1_; have BK286 := n2_; have GW286 := n3_; have GE286 := n4_; have NB280_286 := n5_; have NB286_280 := n6_; clear n0_ n1_ n2_ n3_ n4_ n5_ n6_; clear hb hbox hg; have hnb68 := NB286_280.out; have hnc68 := NB280_286.out; have hcz69_0 : w67.cell? ⟨gb286, 0, none⟩ = some (.int .i64 0) := (blk_cell BK286.out 0).trans rfl; have hcz69_1 : w67.cell? ⟨gb286, 1, none⟩ = some (.bool false) := (blk_cell BK286.out 1).trans rfl; have hcz69_2 : w67.cell? ⟨gb286, 2, none⟩ = some (.string (⟨#[]⟩ : ByteArray)) := (blk_cell BK286.out 2).trans rfl; have hcz69_3 : w67.cell? ⟨gb286, 3, none⟩ = some (.string (⟨#[]⟩ : ByteArray)) := (blk_cell BK286.out 3).trans rfl; have hfz69_0 := blk_frozen BK286.out 0; have hfz69_1 := blk_frozen BK286.out 1; have hfz69_2 := blk_frozen BK286.out 2; have hfz69_3 := blk_frozen BK286.out 3; have hcz70_0 : w67.cell? ⟨gb280, 0, none⟩ = some (.int .i64 t275) := (blk_cell BK280.out 0).trans rfl; have hcz70_1 : w67.cell? ⟨gb280, 1, none⟩ = some (.bool t276) := (blk_cell BK280.out 1).trans rfl; have hcz70_2 : w67.cell? ⟨gb280, 2, none⟩ = some (.string t277) := (blk_cell BK280.out 2).trans rfl; have hcz70_3 : w67.cell? ⟨gb280, 3, none⟩ = some (.string t278) := (blk_cell BK280.out 3).trans rfl; have hfz70_0 := blk_frozen BK280.out 0; have hfz70_1 := blk_frozen BK280.out 1; have hfz70_2 := blk_frozen BK280.out 2; have hfz70_3 := blk_frozen BK280.out 3) | (go_at_call 11; (with_reducible refine (float11_Form.calls _ _ _ _ A63.out).mono ?_); rintro e w71 ⟨rfl, hb⟩; have n0_ := Aside0.mk (blk_below (g := gb280) (o := .cells #[.int .i64 t275, .bool t276, .string t277, .string t278] 26 (0, 0)) bk hb); have n1_ := Aside0.mk (blk_below (g := gb286) (o := .cells #[.int .i64 t281, .bool t282, .string t283, .string t284] 26 (0, 0)) bk hb); have n2_ := Aside0.mk (below_step bl hb); clear BK280; clear BK286; clear HB; have BK280 := n0_; have BK286 := n1_; have HB := n2_; clear n0_ n1_ n2_; (try clear hb); (try clear hb2); (try clear hk); (try clear hi)) | (go_at_call 11; (with_reducible refine (float11_Form.calls _ _ _ _ A65.out).mono ?_); rintro e w72 ⟨rfl, hb⟩; have n0_ := Aside0.mk (blk_below (g := gb280) (o := .cells #[.int .i64 t275, .bool t276, .string t277, .string t278] 26 (0, 0)) bk hb); have n1_ := Aside0.mk (blk_below (g := gb286) (o := .cells #[.int .i64 t281, .bool t282, .string t283, .string t284] 26 (0, 0)) bk hb); have n2_ := Aside0.mk (below_step bl hb); clear BK280; clear BK286; clear HB; have BK280 := n0_; have BK286 := n1_; have HB := n2_; clear n0_ n1_ n2_; (try clear hb); (try clear hb2); (try clear hk); (try clear hi)))
                  go_ret
                  exact ⟨by first | rfl | (simp [errW_none, errW_some] <;> rfl) | (simp [*, errW_none, errW_some] <;> rfl), bl⟩
               ·rw [if_neg c59] at H
                exact absurd H (by simp)
              ·replace c58 := Bool.eq_false_iff.mpr c58
               subst c58; have H1 : (if 1 + x15_23.size ≤ 9223372036854775807 then ((float11_Of.f kj50 ((⟨#[43]⟩ : ByteArray) ++ x15_23)).bind fun bt289 => (if bt289.2.2.2.2 = true then (if (bt289.1 == t275 && (bt289.2.1 == t276 && (bt289.2.2.1.toList == t277.toList && (bt289.2.2.2.1.toList == t278.toList)))) = true then ((float11_Form.f kj50 x15_23).bind fun t295 => (if t295 = x21_50 then ((float11_Form.f kj50 ((⟨#[43]⟩ : ByteArray) ++ x15_23)).bind fun t296 => (some (t296 == x21_50))) else (some false))) else (some false)) else (some false))) else (none)) = some r := by rw [if_neg (show ¬ (false = true) by decide)] at H; exact H
               clear H; have H := H1; clear H1; by_cases c88 : 1 + x15_23.size ≤ 9223372036854775807
               ·rw [if_pos c88] at H
                have c88b0 := eq_true c88; have c88b1 : decide (1 + x15_23.size ≤ 9223372036854775807) = true := decide_eq_true c88; try have c88b2 : (9223372036854775807 < 1 + x15_23.size) = False := eq_false (Nat.not_lt.2 c88)
                replace H := Option.bind_eq_some_iff.mp H; obtain ⟨⟨t289, t290, t291, t292, t293⟩, A890, H⟩ := H; replace H : (if t293 = true then (if (t289 == t275 && (t290 == t276 && (t291.toList == t277.toList && (t292.toList == t278.toList)))) = true then ((float11_Form.f kj50 x15_23).bind fun t295 => (if t295 = x21_50 then ((float11_Form.f kj50 ((⟨#[43]⟩ : ByteArray) ++ x15_23)).bind fun t296 => (some (t296 == x21_50))) else (some false))) else (some false)) else (some false)) = some r := H; have A89 := Aside0.mk A890; clear A890; refine Classical.byCases (p := (t293 = true)) (fun c90 => ?x1) (fun c90 => ?y1)
                case' x1 =>
                 subst c90; have H1 : (if (t289 == t275 && (t290 == t276 && (t291.toList == t277.toList && (t292.toList == t278.toList)))) = true then ((float11_Form.f kj50 x15_23).bind fun t295 => (if t295 = x21_50 then ((float11_Form.f kj50 ((⟨#[43]⟩ : ByteArray) ++ x15_23)).bind fun t296 => (some (t296 == x21_50))) else (some false))) else (some false)) = some r := by rw [if_pos rfl] at H; exact H
                 clear H; have H := H1; clear H1; refine Classical.byCases (p := ((t289 == t275 && (t290 == t276 && (t291.toList == t277.toList && (t292.toList == t278.toList)))) = true)) (fun c91 => ?x2) (fun c91 => ?y2)
                 case' x2 =>
                  rw [if_pos c91] at H; have c91b0 : (t289 == t275 && (t290 == t276 && (t291.toList == t277.toList && (t292.toList == t278.toList)))) = true := c91; (try (have c91b1 : decide (t289 = t275 && (t290 == t276 && (t291.toList == t277.toList && (t292.toList == t278.toList)))) = true := by simpa using c91)); (try (have c91b2 : (t289 == t275 && (t290 == t276 && (t291.toList == t277.toList && (t292.toList == t278.toList)))) = true := by simpa using c91)); clear c91; replace H := Option.bind_eq_some_iff.mp H; obtain ⟨t295, A920, H⟩ := H; replace H : (if t295 = x21_50 then ((float11_Form.f kj50 ((⟨#[43]⟩ : ByteArray) ++ x15_23)).bind fun t296 => (some (t296 == x21_50))) else (some false)) = some r := H; have A92 := Aside0.mk A920; clear A920; refine Classical.byCases (p := (t295 = x21_50)) (fun c93 => ?x3) (fun c93 => ?y3)
                  case' x3 =>
                   rw [if_pos c93] at H; have c93b0 : (t295 == x21_50) = true := beq_iff_eq.mpr c93; have c93b1 : (t295 != x21_50) = false := bne_eq_false_iff_eq.mpr c93; clear c93; replace H := Option.bind_eq_some_iff.mp H; obtain ⟨t296, A940, H⟩ := H; replace H : (some (t296 == x21_50)) = some r := H; have A94 := Aside0.mk A940; clear A940; obtain rfl := Option.some.inj H; skip
                  case' y3 =>
                   rw [if_neg c93] at H; have c93b0 : (t295 == x21_50) = false := beq_eq_false_iff_ne.mpr c93; have c93b1 : (t295 != x21_50) = true := bne_iff_ne.mpr c93; obtain rfl := Option.some.inj H; skip
                 case' y2 =>
                  rw [if_neg c91] at H; have c91b0 : (t289 == t275 && (t290 == t276 && (t291.toList == t277.toList && (t292.toList == t278.toList)))) = false := by simpa using c91
                  (try (have c91b1 : decide (t289 = t275 && (t290 == t276 && (t291.toList == t277.toList && (t292.toList == t278.toList)))) = false := by simpa using c91)); (try (have c91b2 : (t289 == t275 && (t290 == t276 && (t291.toList == t277.toList && (t292.toList == t278.toList)))) = false := by simpa using c91)); (try (have c91b3 : ¬ (t289 = t275 && (t290 == t276 && (t291.toList == t277.toList && (t292.toList == t278.toList)))) := by simpa using c91)); clear c91; obtain rfl := Option.some.inj H; skip
                case' y1 =>
                 replace c90 := Bool.eq_false_iff.mpr c90; subst c90; have H1 : (some false) = some r := by rw [if_neg (show ¬ (false = true) by decide)] at H; exact H
                 clear H; have H := H1; clear H1; obtain rfl := Option.some.inj H; skip
                case x3 | y3 | y2 | y1 =>
                 as_aux_lemma =>
                  go_wp2_with (first | ((with_reducible refine gate_callee (f := 8) rfl ?_); refine goesL_ (some 107) rfl rfl Tryz.func8 (by kernel_rfl) rfl #[.string ((⟨#[43]⟩ : ByteArray) ++ x15_23)] rfl (by (try simp only [List.map_toArray, List.map_cons, List.map_nil]); first | done | rfl | (simp only [List.length_drop, List.length_take]; rfl)) ?_; (with_reducible refine (float11_Of.calls _ _ _ _ _ _ _ _ ?side1 A89.out).mono ?_); (case side1 => exact Go.Proofs.YtkijneohhilboaaGreatDoor.PKT.Tabs_below HG.out bl); rintro e w95 ⟨rfl, hb⟩; refine ⟨_, rfl, ?_⟩; have n0_ := Aside0.mk (blk_below (g := gb280) (o := .cells #[.int .i64 t275, .bool t276, .string t277, .string t278] 26 (0, 0)) bk hb); have n1_ := Aside0.mk (below_step bl hb); clear BK280; clear HB; have BK280 := n0_; have HB := n1_; clear n0_ n1_; (try clear hb); (try clear hb2); (try clear hk); (try clear hi)) | ((with_reducible refine gate_dst (N := 23) rfl ?_); (try (refine gate_guard (by rfl) ?_; dsimp only)); refine box_event ?hg (N := 23) ?hd (cs := #[.int .i64 0, .bool false, .string (⟨#[]⟩ : ByteArray), .string (⟨#[]⟩ : ByteArray)]) (t := 26) ?hr ?_; (case hd => rfl); (case hg => rfl); (case hr => first | (go_simp; done) | (go_simp; rfl)); intro gb294 hg w96 hbox hb; have n0_ := Aside0.mk (blk_below (g := gb280) (o := .cells #[.int .i64 t275, .bool t276, .string t277, .string t278] 26 (0, 0)) bk hb); have n1_ := Aside0.mk (below_step bl hb); have n2_ := Aside0.mk (hbox); have n3_ := Aside0.mk ((by rw [hg]; exact (below_size bl) : w.heap.size ≤ gb294)); have n4_ := Aside0.mk ((by rw [hg]; exact (below_size bl) : w.heap.size ≤ gb294)); have n5_ := Aside0.mk ((by rw [hg]; exact Nat.ne_of_lt (blk_lt (g := gb280) (o := .cells #[.int .i64 t275, .bool t276, .string t277, .string t278] 26 (0, 0)) bk) : gb280 ≠ gb294)); have n6_ := Aside0.mk ((by rw [hg]; exact Nat.ne_of_gt (blk_lt (g := gb280) (o := .cells #[.int .i64 t275, .bool t276, .string t277, .string t278] 26 (0, 0)) bk) : gb294 ≠ gb280)); clear BK280; clear HB; have BK280 := n0_; have HB := n1_; have BK294 := n2_; have GW294 := n3_; have GE294 := n4_; have NB280_294 := n5_; have NB294_280 := n6_; clear n0_ n1_ n2_ n3_ n4_ n5_ n6_; clear hb hbox hg; have hnb97 := NB294_280.out; have hnc97 := NB280_294.out; have hcz98_0 : w96.cell? ⟨gb294, 0, none⟩ = some (.int .i64 0) := (blk_cell BK294.out 0).trans rfl; have hcz98_1 : w96.cell? ⟨gb294, 1, none⟩ = some (.bool false) := (blk_cell BK294.out 1).trans rfl; have hcz98_2 : w96.cell? ⟨gb294, 2, none⟩ = some (.string (⟨#[]⟩ : ByteArray)) := (blk_cell BK294.out 2).trans rfl; have hcz98_3 : w96.cell? ⟨gb294, 3, none⟩ = some (.string (⟨#[]⟩ : ByteArray)) := (blk_cell BK294.out 3).trans rfl; have hfz98_0 := blk_frozen BK294.out 0; have hfz98_1 := blk_frozen BK294.out 1; have hfz98_2 := blk_frozen BK294.out 2; have hfz98_3 := blk_frozen BK294.out 3; have hcz99_0 : w96.cell? ⟨gb280, 0, none⟩ = some (.int .i64 t275) := (blk_cell BK280.out 0).trans rfl; have hcz99_1 : w96.cell? ⟨gb280, 1, none⟩ = some (.bool t276) := (blk_cell BK280.out 1).trans rfl; have hcz99_2 : w96.cell? ⟨gb280, 2, none⟩ = some (.string t277) := (blk_cell BK280.out 2).trans rfl; have hcz99_3 : w96.cell? ⟨gb280, 3, none⟩ = some (.string t278) := (blk_cell BK280.out 3).trans rfl; have hfz99_0 := blk_frozen BK280.out 0; have hfz99_1 := blk_frozen BK280.out 1; have hfz99_2 := blk_frozen BK280.out 2; have hfz99_3 := blk_frozen BK280.out 3) | (go_at_call 11; (with_reducible refine (float11_Form.calls _ _ _ _ A92.out).mono ?_); rintro e w100 ⟨rfl, hb⟩; have n0_ := Aside0.mk (blk_below (g := gb280) (o := .cells #[.int .i64 t275, .bool t276, .string t277, .string t278] 26 (0, 0)) bk hb); have n1_ := Aside0.mk (blk_below (g := gb294) (o := .cells #[.int .i64 t289, .bool t290, .string t291, .string t292] 26 (0, 0)) bk hb); have n2_ := Aside0.mk (below_step bl hb); clear BK280; clear BK294; clear HB; have BK280 := n0_; have BK294 := n1_; have HB := n2_; clear n0_ n1_ n2_; (try clear hb); (try clear hb2); (try clear hk); (try clear hi)) | (go_at_call 11; (with_reducible refine (float11_Form.calls _ _ _ _ A94.out).mono ?_); rintro e w101 ⟨rfl, hb⟩; have n0_ := Aside0.mk (blk_below (g := gb280) (o := .cells #[.int .i64 t275, .bool t276, .string t277, .string t278] 26 (0, 0)) bk hb); have n1_ := Aside0.mk (blk_below (g := gb294) (o := .cells #[.int .i64 t289, .bool t290, .string t291, .string t292] 26 (0, 0)) bk hb); have n2_ := Aside0.mk (below_step bl hb); clear BK280; clear BK294; clear HB; have BK280 := n0_; have BK294 := n1_; have HB := n2_; clear n0_ n1_ n2_; (try clear hb); (try clear hb2); (try clear hk); (try clear hi)))
                  go_ret
                  exact ⟨by first | rfl | (simp [errW_none, errW_some] <;> rfl) | (simp [*, errW_none, errW_some] <;> rfl), bl⟩
               ·rw [if_neg c88] at H
                exact absurd H (by simp)
         ·rw [if_neg c23] at H
          exact absurd H (by simp)
        ·rw [if_neg c21] at H
         exact absurd H (by simp)
 ·replace c9 := Bool.eq_false_iff.mpr c9
  subst c9
  have H1 : (some false) = some r := by rw [if_neg (show ¬ (false = true) by decide)] at H; exact H
  clear H
  have H := H1
  clear H1
  obtain rfl := Option.some.inj H
  go_enter Tryz.func4, Tryz.ntmps4
  go_wp2_with (first | ((with_reducible refine gate_callee (f := 7) rfl ?_); refine goesL_ (some 25) rfl rfl Tryz.func7 (by kernel_rfl) rfl #[] rfl (by (try simp only [List.map_toArray, List.map_cons, List.map_nil]); first | done | rfl | (simp only [List.length_drop, List.length_take]; rfl)) ?_; (with_reducible refine (targumlaw7_known.calls k  false _ ?side1 A8.out).mono ?_); (case side1 => exact Go.Proofs.YtkijneohhilboaaGreatDoor.PKT.Tabs_below HG.out bl); rintro e w117 ⟨rfl, hb⟩; refine ⟨_, rfl, ?_⟩; have n0_ := Aside0.mk (below_step bl hb); clear HB; have HB := n0_; clear n0_; (try clear hb); (try clear hb2); (try clear hk); (try clear hi)))
  go_ret
  exact ⟨by first | rfl | (simp [errW_none, errW_some] <;> rfl) | (simp [*, errW_none, errW_some] <;> rfl), bl⟩

/-- THE ONE PURE STATEMENT of targumlaw7_Float11Parts: yours. -/
def targumlaw7_Float11Parts.Pure : Prop := ∀ (a0 : ByteArray) (a1 : ByteArray) (a2 : ByteArray) (a3 : Bool) (a4 : Bool) (a5 : Bool) (a6 : Bool), a0.size ≤ 140737488351232 → a1.size ≤ 140737488351232 → a2.size ≤ 140737488351232 → ∃ k, targumlaw7_Float11Parts.f k a0 a1 a2 a3 a4 a5 a6 = some true
theorem targumlaw7_Float11Parts.walk (P : targumlaw7_Float11Parts.Pure) (a0 : ByteArray) (a1 : ByteArray) (a2 : ByteArray) (a3 : Bool) (a4 : Bool) (a5 : Bool) (a6 : Bool) (w : World) (w0 : a0.size ≤ 140737488351232) (w1 : a1.size ≤ 140737488351232) (w2 : a2.size ≤ 140737488351232) (hG : Go.Proofs.YtkijneohhilboaaGreatDoor.PKT.Tabs w) :
  Calls Tryz.prog 4 #[.string a0, .string a1, .string a2, .bool a3, .bool a4, .bool a5, .bool a6] w fun e w' => e = .returned (.bool true) ∧ Below w.heap.size w w' := by
 obtain ⟨k, h⟩ := P a0 a1 a2 a3 a4 a5 a6 w0 w1 w2
 refine (targumlaw7_Float11Parts.calls k a0 a1 a2 a3 a4 a5 a6 true w hG h).mono ?_
 rintro e w' ⟨rfl, hd⟩
 exact ⟨rfl, hd⟩

end Go.Proofs.YtkijneohhilboaaGreatDoor.PK
