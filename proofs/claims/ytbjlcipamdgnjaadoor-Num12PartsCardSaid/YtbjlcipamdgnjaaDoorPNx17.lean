/- Written by this session's own program (xprint, made over the kit's print): Lean functions with the same answers as the Go functions, and the proofs of that. Not trusted: Lean checks it. -/
import Derived.Test.YtbjlcipamdgnjaaDoorPNx0
import Derived.Test.YtbjlcipamdgnjaaDoorPNx1
import Derived.Test.YtbjlcipamdgnjaaDoorPNx3
import Derived.Test.YtbjlcipamdgnjaaDoorPNx5
import Derived.Test.YtbjlcipamdgnjaaDoorPNx6
import Derived.Test.YtbjlcipamdgnjaaDoorPNx10
import Derived.Test.YtbjlcipamdgnjaaDoorPNx13
import Derived.Test.YtbjlcipamdgnjaaDoorXW
namespace Go.Proofs.YtbjlcipamdgnjaaDoor.PN
open Go.Proofs.YtbjlcipamdgnjaaDoor.XW Go.RowKit Go.Proofs.YtbjlcipamdgnjaaDoorW.PrintWords Go.Proofs.YtbjlcipamdgnjaaDoorW.PrintLast Go.Proofs.YtbjlcipamdgnjaaDoorW.PrintMore
attribute [local go_sem] max2_int min2_int max_two min_two max_three min_three max_four min_four   -- for this text's walks alone
set_option linter.unusedVariables false
set_option linter.unusedSimpArgs false

attribute [local go_sem high] eqA28
/-! ### targumlaw8_Num12Parts: function 6 -/
mutual
def targumlaw8_Num12Parts.j0 : Nat → ByteArray → ByteArray → ByteArray → Bool → Bool → Bool → Bool → Bool → Bool → Option (Bool)
 | 0, _, _, _, _, _, _, _, _, _ => none
 | k + 1, x0, x1, x2, x3, x4, x5, x6, x7, x74 => if x74 = true then (some true) else ((targumlaw8_digits.f k x0).bind fun t378 => (if x5 = true then (if t378.size + 1 ≤ 9223372036854775807 then ((targumlaw8_digits.f k x1).bind fun t379 => (if (t378 ++ (⟨#[46]⟩ : ByteArray)).size + t379.size ≤ 9223372036854775807 then ((targumlaw8_digits.f k x1).bind fun t380 => (targumlaw8_Num12Parts.j1 k x0 x2 x3 x4 x6 x7 ((t378 ++ (⟨#[46]⟩ : ByteArray)) ++ t379) t380 (⟨#[48]⟩ : ByteArray))) else (none))) else (none)) else (targumlaw8_Num12Parts.j1 k x0 x2 x3 x4 x6 x7 t378 (⟨#[]⟩ : ByteArray) (⟨#[48]⟩ : ByteArray))))
def targumlaw8_Num12Parts.j1 : Nat → ByteArray → ByteArray → Bool → Bool → Bool → Bool → ByteArray → ByteArray → ByteArray → Option (Bool)
 | 0, _, _, _, _, _, _, _, _, _ => none
 | k + 1, x0, x2, x3, x4, x6, x7, x17, x18, x19 => if x6 = true then (if x4 = true then (targumlaw8_Num12Parts.j2 k x0 x2 x3 x4 x7 x17 x18 (⟨#[45]⟩ : ByteArray)) else (targumlaw8_Num12Parts.j2 k x0 x2 x3 x4 x7 x17 x18 (⟨#[43]⟩ : ByteArray))) else (targumlaw8_Num12Parts.j4 k x0 x3 x17 x18 x19)
def targumlaw8_Num12Parts.j4 : Nat → ByteArray → Bool → ByteArray → ByteArray → ByteArray → Option (Bool)
 | 0, _, _, _, _, _ => none
 | k + 1, x0, x3, x17, x18, x19 => (targumlaw8_digits.f k x0).bind fun t387 => ((targumref4_Make.f k x3 t387 x18 x19).bind fun bt388 => (if x3 = true then (if 1 + x17.size ≤ 9223372036854775807 then ((num12_Float.f k ((⟨#[45]⟩ : ByteArray) ++ x17)).bind fun bt394 => ((num12_Int.f k ((⟨#[45]⟩ : ByteArray) ++ x17)).bind fun bt400 => (if ((⟨#[45]⟩ : ByteArray) ++ x17).size + 1 ≤ 9223372036854775807 then ((num12_Float.f k (((⟨#[45]⟩ : ByteArray) ++ x17) ++ (⟨#[95]⟩ : ByteArray))).bind fun bt402 => (if bt394.2.2.2.2 = true then (if (bt394.1 == bt388.1 && (bt394.2.1 == bt388.2.1 && (bt394.2.2.1.toList == bt388.2.2.1.toList && (bt394.2.2.2.1.toList == bt388.2.2.2.1.toList)))) = true then (if bt400.2 = true then (some false) else (some (!bt402.2.2.2.2))) else (some false)) else (some false))) else (none)))) else (none)) else (if 0 + x17.size ≤ 9223372036854775807 then ((num12_Float.f k ((⟨#[]⟩ : ByteArray) ++ x17)).bind fun bt408 => ((num12_Int.f k ((⟨#[]⟩ : ByteArray) ++ x17)).bind fun bt414 => (if ((⟨#[]⟩ : ByteArray) ++ x17).size + 1 ≤ 9223372036854775807 then ((num12_Float.f k (((⟨#[]⟩ : ByteArray) ++ x17) ++ (⟨#[95]⟩ : ByteArray))).bind fun bt416 => (if bt408.2.2.2.2 = true then (if (bt408.1 == bt388.1 && (bt408.2.1 == bt388.2.1 && (bt408.2.2.1.toList == bt388.2.2.1.toList && (bt408.2.2.2.1.toList == bt388.2.2.2.1.toList)))) = true then (if bt414.2 = true then (some false) else (some (!bt416.2.2.2.2))) else (some false)) else (some false))) else (none)))) else (none))))
def targumlaw8_Num12Parts.j2 : Nat → ByteArray → ByteArray → Bool → Bool → Bool → ByteArray → ByteArray → ByteArray → Option (Bool)
 | 0, _, _, _, _, _, _, _, _ => none
 | k + 1, x0, x2, x3, x4, x7, x17, x18, x20 => if x7 = true then (targumlaw8_Num12Parts.j3 k x0 x2 x3 x4 x17 x18 x20 (!x4)) else (targumlaw8_Num12Parts.j3 k x0 x2 x3 x4 x17 x18 x20 false)
def targumlaw8_Num12Parts.j3 : Nat → ByteArray → ByteArray → Bool → Bool → ByteArray → ByteArray → ByteArray → Bool → Option (Bool)
 | 0, _, _, _, _, _, _, _, _ => none
 | k + 1, x0, x2, x3, x4, x17, x18, x20, x91 => if x91 = true then (if x17.size + 1 ≤ 9223372036854775807 then (if (x17 ++ (⟨#[101]⟩ : ByteArray)).size + 0 ≤ 9223372036854775807 then ((targumlaw8_digits.f k x2).bind fun t381 => (if ((x17 ++ (⟨#[101]⟩ : ByteArray)) ++ (⟨#[]⟩ : ByteArray)).size + t381.size ≤ 9223372036854775807 then ((targumlaw8_digits.f k x2).bind fun t382 => ((targumref4_Norm.f k x4 t382).bind fun t383 => (targumlaw8_Num12Parts.j4 k x0 x3 (((x17 ++ (⟨#[101]⟩ : ByteArray)) ++ (⟨#[]⟩ : ByteArray)) ++ t381) x18 t383))) else (none))) else (none)) else (none)) else (if x17.size + 1 ≤ 9223372036854775807 then (if (x17 ++ (⟨#[101]⟩ : ByteArray)).size + x20.size ≤ 9223372036854775807 then ((targumlaw8_digits.f k x2).bind fun t384 => (if ((x17 ++ (⟨#[101]⟩ : ByteArray)) ++ x20).size + t384.size ≤ 9223372036854775807 then ((targumlaw8_digits.f k x2).bind fun t385 => ((targumref4_Norm.f k x4 t385).bind fun t386 => (targumlaw8_Num12Parts.j4 k x0 x3 (((x17 ++ (⟨#[101]⟩ : ByteArray)) ++ x20) ++ t384) x18 t386))) else (none))) else (none)) else (none))
end
def targumlaw8_Num12Parts.f (k : Nat) (a0 : ByteArray) (a1 : ByteArray) (a2 : ByteArray) (a3 : Bool) (a4 : Bool) (a5 : Bool) (a6 : Bool) (a7 : Bool) : Option (Bool) := (targumlaw8_known.f k).bind fun t377 => (if t377 = true then (if (a0.size : Int) > 30 then (targumlaw8_Num12Parts.j0 k a0 a1 a2 a3 a4 a5 a6 a7 true) else (if (a1.size : Int) > 30 then (targumlaw8_Num12Parts.j0 k a0 a1 a2 a3 a4 a5 a6 a7 true) else (if (a2.size : Int) < 1 then (targumlaw8_Num12Parts.j0 k a0 a1 a2 a3 a4 a5 a6 a7 true) else (if (a2.size : Int) > 30 then (targumlaw8_Num12Parts.j0 k a0 a1 a2 a3 a4 a5 a6 a7 true) else (if a5 = true then (if (wrap64 ((a0.size : Int) + (a1.size : Int))) = 0 then (targumlaw8_Num12Parts.j0 k a0 a1 a2 a3 a4 a5 a6 a7 true) else (targumlaw8_Num12Parts.j0 k a0 a1 a2 a3 a4 a5 a6 a7 false)) else (if (a0.size : Int) = 0 then (targumlaw8_Num12Parts.j0 k a0 a1 a2 a3 a4 a5 a6 a7 true) else (if (wrap64 ((a0.size : Int) + (a1.size : Int))) = 0 then (targumlaw8_Num12Parts.j0 k a0 a1 a2 a3 a4 a5 a6 a7 true) else (targumlaw8_Num12Parts.j0 k a0 a1 a2 a3 a4 a5 a6 a7 (!a6))))))))) else (some false))
theorem targumlaw8_Num12Parts.mono_l : ∀ k, (∀ y0 y1 y2 y3 y4 y5 y6 y7 y8, LeO (targumlaw8_Num12Parts.j0 k y0 y1 y2 y3 y4 y5 y6 y7 y8) (targumlaw8_Num12Parts.j0 (k + 1) y0 y1 y2 y3 y4 y5 y6 y7 y8)) ∧ (∀ y0 y1 y2 y3 y4 y5 y6 y7 y8, LeO (targumlaw8_Num12Parts.j1 k y0 y1 y2 y3 y4 y5 y6 y7 y8) (targumlaw8_Num12Parts.j1 (k + 1) y0 y1 y2 y3 y4 y5 y6 y7 y8)) ∧ (∀ y0 y1 y2 y3 y4, LeO (targumlaw8_Num12Parts.j4 k y0 y1 y2 y3 y4) (targumlaw8_Num12Parts.j4 (k + 1) y0 y1 y2 y3 y4)) ∧ (∀ y0 y1 y2 y3 y4 y5 y6 y7, LeO (targumlaw8_Num12Parts.j2 k y0 y1 y2 y3 y4 y5 y6 y7) (targumlaw8_Num12Parts.j2 (k + 1) y0 y1 y2 y3 y4 y5 y6 y7)) ∧ (∀ y0 y1 y2 y3 y4 y5 y6 y7, LeO (targumlaw8_Num12Parts.j3 k y0 y1 y2 y3 y4 y5 y6 y7) (targumlaw8_Num12Parts.j3 (k + 1) y0 y1 y2 y3 y4 y5 y6 y7))
 | 0 => ⟨fun _ _ _ _ _ _ _ _ _ r h => by simp [targumlaw8_Num12Parts.j0] at h, fun _ _ _ _ _ _ _ _ _ r h => by simp [targumlaw8_Num12Parts.j1] at h, fun _ _ _ _ _ r h => by simp [targumlaw8_Num12Parts.j4] at h, fun _ _ _ _ _ _ _ _ r h => by simp [targumlaw8_Num12Parts.j2] at h, fun _ _ _ _ _ _ _ _ r h => by simp [targumlaw8_Num12Parts.j3] at h⟩
 | k + 1 => by
  obtain ⟨ih0, ih1, ih2, ih3, ih4⟩ := targumlaw8_Num12Parts.mono_l k
  refine ⟨?_, ?_, ?_, ?_, ?_⟩
  ·intro y0 y1 y2 y3 y4 y5 y6 y7 y8
   unfold targumlaw8_Num12Parts.j0
   repeat' first
   | (with_reducible exact ih0 _ _ _ _ _ _ _ _ _)
   | (with_reducible exact ih1 _ _ _ _ _ _ _ _ _)
   | (with_reducible exact ih2 _ _ _ _ _)
   | (with_reducible exact ih3 _ _ _ _ _ _ _ _)
   | (with_reducible exact ih4 _ _ _ _ _ _ _ _)
   | (with_reducible exact num12_Float.mono _ _)
   | (with_reducible exact num12_Int.mono _ _)
   | (with_reducible exact targumlaw8_digits.mono _ _)
   | (with_reducible exact targumlaw8_known.mono _)
   | (with_reducible exact targumref4_Make.mono _ _ _ _ _)
   | (with_reducible exact targumref4_Norm.mono _ _ _)
   | (with_reducible exact LeO.refl _)
   | (with_reducible exact LeO.none _)
   | (with_reducible refine LeO.ite ?_ ?_)
   | (with_reducible refine LeO.bind ?_ (fun _ => ?_))
   | exact ih0 _ _ _ _ _ _ _ _ _
   | exact ih1 _ _ _ _ _ _ _ _ _
   | exact ih2 _ _ _ _ _
   | exact ih3 _ _ _ _ _ _ _ _
   | exact ih4 _ _ _ _ _ _ _ _
   | exact num12_Float.mono _ _
   | exact num12_Int.mono _ _
   | exact targumlaw8_digits.mono _ _
   | exact targumlaw8_known.mono _
   | exact targumref4_Make.mono _ _ _ _ _
   | exact targumref4_Norm.mono _ _ _
   | exact LeO.none _
   | refine LeO.ite ?_ ?_
   | refine LeO.bind ?_ (fun _ => ?_)
  ·intro y0 y1 y2 y3 y4 y5 y6 y7 y8
   unfold targumlaw8_Num12Parts.j1
   repeat' first
   | (with_reducible exact ih0 _ _ _ _ _ _ _ _ _)
   | (with_reducible exact ih1 _ _ _ _ _ _ _ _ _)
   | (with_reducible exact ih2 _ _ _ _ _)
   | (with_reducible exact ih3 _ _ _ _ _ _ _ _)
   | (with_reducible exact ih4 _ _ _ _ _ _ _ _)
   | (with_reducible exact num12_Float.mono _ _)
   | (with_reducible exact num12_Int.mono _ _)
   | (with_reducible exact targumlaw8_digits.mono _ _)
   | (with_reducible exact targumlaw8_known.mono _)
   | (with_reducible exact targumref4_Make.mono _ _ _ _ _)
   | (with_reducible exact targumref4_Norm.mono _ _ _)
   | (with_reducible exact LeO.refl _)
   | (with_reducible exact LeO.none _)
   | (with_reducible refine LeO.ite ?_ ?_)
   | (with_reducible refine LeO.bind ?_ (fun _ => ?_))
   | exact ih0 _ _ _ _ _ _ _ _ _
   | exact ih1 _ _ _ _ _ _ _ _ _
   | exact ih2 _ _ _ _ _
   | exact ih3 _ _ _ _ _ _ _ _
   | exact ih4 _ _ _ _ _ _ _ _
   | exact num12_Float.mono _ _
   | exact num12_Int.mono _ _
   | exact targumlaw8_digits.mono _ _
   | exact targumlaw8_known.mono _
   | exact targumref4_Make.mono _ _ _ _ _
   | exact targumref4_Norm.mono _ _ _
   | exact LeO.none _
   | refine LeO.ite ?_ ?_
   | refine LeO.bind ?_ (fun _ => ?_)
  ·intro y0 y1 y2 y3 y4
   unfold targumlaw8_Num12Parts.j4
   repeat' first
   | (with_reducible exact ih0 _ _ _ _ _ _ _ _ _)
   | (with_reducible exact ih1 _ _ _ _ _ _ _ _ _)
   | (with_reducible exact ih2 _ _ _ _ _)
   | (with_reducible exact ih3 _ _ _ _ _ _ _ _)
   | (with_reducible exact ih4 _ _ _ _ _ _ _ _)
   | (with_reducible exact num12_Float.mono _ _)
   | (with_reducible exact num12_Int.mono _ _)
   | (with_reducible exact targumlaw8_digits.mono _ _)
   | (with_reducible exact targumlaw8_known.mono _)
   | (with_reducible exact targumref4_Make.mono _ _ _ _ _)
   | (with_reducible exact targumref4_Norm.mono _ _ _)
   | (with_reducible exact LeO.refl _)
   | (with_reducible exact LeO.none _)
   | (with_reducible refine LeO.ite ?_ ?_)
   | (with_reducible refine LeO.bind ?_ (fun _ => ?_))
   | exact ih0 _ _ _ _ _ _ _ _ _
   | exact ih1 _ _ _ _ _ _ _ _ _
   | exact ih2 _ _ _ _ _
   | exact ih3 _ _ _ _ _ _ _ _
   | exact ih4 _ _ _ _ _ _ _ _
   | exact num12_Float.mono _ _
   | exact num12_Int.mono _ _
   | exact targumlaw8_digits.mono _ _
   | exact targumlaw8_known.mono _
   | exact targumref4_Make.mono _ _ _ _ _
   | exact targumref4_Norm.mono _ _ _
   | exact LeO.none _
   | refine LeO.ite ?_ ?_
   | refine LeO.bind ?_ (fun _ => ?_)
  ·intro y0 y1 y2 y3 y4 y5 y6 y7
   unfold targumlaw8_Num12Parts.j2
   repeat' first
   | (with_reducible exact ih0 _ _ _ _ _ _ _ _ _)
   | (with_reducible exact ih1 _ _ _ _ _ _ _ _ _)
   | (with_reducible exact ih2 _ _ _ _ _)
   | (with_reducible exact ih3 _ _ _ _ _ _ _ _)
   | (with_reducible exact ih4 _ _ _ _ _ _ _ _)
   | (with_reducible exact num12_Float.mono _ _)
   | (with_reducible exact num12_Int.mono _ _)
   | (with_reducible exact targumlaw8_digits.mono _ _)
   | (with_reducible exact targumlaw8_known.mono _)
   | (with_reducible exact targumref4_Make.mono _ _ _ _ _)
   | (with_reducible exact targumref4_Norm.mono _ _ _)
   | (with_reducible exact LeO.refl _)
   | (with_reducible exact LeO.none _)
   | (with_reducible refine LeO.ite ?_ ?_)
   | (with_reducible refine LeO.bind ?_ (fun _ => ?_))
   | exact ih0 _ _ _ _ _ _ _ _ _
   | exact ih1 _ _ _ _ _ _ _ _ _
   | exact ih2 _ _ _ _ _
   | exact ih3 _ _ _ _ _ _ _ _
   | exact ih4 _ _ _ _ _ _ _ _
   | exact num12_Float.mono _ _
   | exact num12_Int.mono _ _
   | exact targumlaw8_digits.mono _ _
   | exact targumlaw8_known.mono _
   | exact targumref4_Make.mono _ _ _ _ _
   | exact targumref4_Norm.mono _ _ _
   | exact LeO.none _
   | refine LeO.ite ?_ ?_
   | refine LeO.bind ?_ (fun _ => ?_)
  ·intro y0 y1 y2 y3 y4 y5 y6 y7
   unfold targumlaw8_Num12Parts.j3
   repeat' first
   | (with_reducible exact ih0 _ _ _ _ _ _ _ _ _)
   | (with_reducible exact ih1 _ _ _ _ _ _ _ _ _)
   | (with_reducible exact ih2 _ _ _ _ _)
   | (with_reducible exact ih3 _ _ _ _ _ _ _ _)
   | (with_reducible exact ih4 _ _ _ _ _ _ _ _)
   | (with_reducible exact num12_Float.mono _ _)
   | (with_reducible exact num12_Int.mono _ _)
   | (with_reducible exact targumlaw8_digits.mono _ _)
   | (with_reducible exact targumlaw8_known.mono _)
   | (with_reducible exact targumref4_Make.mono _ _ _ _ _)
   | (with_reducible exact targumref4_Norm.mono _ _ _)
   | (with_reducible exact LeO.refl _)
   | (with_reducible exact LeO.none _)
   | (with_reducible refine LeO.ite ?_ ?_)
   | (with_reducible refine LeO.bind ?_ (fun _ => ?_))
   | exact ih0 _ _ _ _ _ _ _ _ _
   | exact ih1 _ _ _ _ _ _ _ _ _
   | exact ih2 _ _ _ _ _
   | exact ih3 _ _ _ _ _ _ _ _
   | exact ih4 _ _ _ _ _ _ _ _
   | exact num12_Float.mono _ _
   | exact num12_Int.mono _ _
   | exact targumlaw8_digits.mono _ _
   | exact targumlaw8_known.mono _
   | exact targumref4_Make.mono _ _ _ _ _
   | exact targumref4_Norm.mono _ _ _
   | exact LeO.none _
   | refine LeO.ite ?_ ?_
   | refine LeO.bind ?_ (fun _ => ?_)
theorem targumlaw8_Num12Parts.mono : ∀ a0 a1 a2 a3 a4 a5 a6 a7 k, LeO (targumlaw8_Num12Parts.f k a0 a1 a2 a3 a4 a5 a6 a7) (targumlaw8_Num12Parts.f (k + 1) a0 a1 a2 a3 a4 a5 a6 a7) := by
 intro a0 a1 a2 a3 a4 a5 a6 a7 k
 obtain ⟨ih0, ih1, ih2, ih3, ih4⟩ := targumlaw8_Num12Parts.mono_l k
 unfold targumlaw8_Num12Parts.f
 repeat' first
   | (with_reducible exact ih0 _ _ _ _ _ _ _ _ _)
   | (with_reducible exact ih1 _ _ _ _ _ _ _ _ _)
   | (with_reducible exact ih2 _ _ _ _ _)
   | (with_reducible exact ih3 _ _ _ _ _ _ _ _)
   | (with_reducible exact ih4 _ _ _ _ _ _ _ _)
   | (with_reducible exact num12_Float.mono _ _)
   | (with_reducible exact num12_Int.mono _ _)
   | (with_reducible exact targumlaw8_digits.mono _ _)
   | (with_reducible exact targumlaw8_known.mono _)
   | (with_reducible exact targumref4_Make.mono _ _ _ _ _)
   | (with_reducible exact targumref4_Norm.mono _ _ _)
   | (with_reducible exact LeO.refl _)
   | (with_reducible exact LeO.none _)
   | (with_reducible refine LeO.ite ?_ ?_)
   | (with_reducible refine LeO.bind ?_ (fun _ => ?_))
   | exact ih0 _ _ _ _ _ _ _ _ _
   | exact ih1 _ _ _ _ _ _ _ _ _
   | exact ih2 _ _ _ _ _
   | exact ih3 _ _ _ _ _ _ _ _
   | exact ih4 _ _ _ _ _ _ _ _
   | exact num12_Float.mono _ _
   | exact num12_Int.mono _ _
   | exact targumlaw8_digits.mono _ _
   | exact targumlaw8_known.mono _
   | exact targumref4_Make.mono _ _ _ _ _
   | exact targumref4_Norm.mono _ _ _
   | exact LeO.none _
   | refine LeO.ite ?_ ?_
   | refine LeO.bind ?_ (fun _ => ?_)
set_option maxHeartbeats 40000000 in
set_option maxRecDepth 100000 in
theorem targumlaw8_Num12Parts.calls (k : Nat) (a0 : ByteArray) (a1 : ByteArray) (a2 : ByteArray) (a3 : Bool) (a4 : Bool) (a5 : Bool) (a6 : Bool) (a7 : Bool) (r : Bool) (w : World) (hG : Go.Proofs.YtbjlcipamdgnjaaDoor.Room.PowTab w) (h : targumlaw8_Num12Parts.f k a0 a1 a2 a3 a4 a5 a6 a7 = some r) :
  Calls Tryd.prog 6 #[.string a0, .string a1, .string a2, .bool a3, .bool a4, .bool a5, .bool a6, .bool a7] w fun e w' => e = .returned (.bool r) ∧ Below w.heap.size w w' := by
 have hu28 := Tryd.underlying28
 have HG := Aside0.mk hG
 clear hG
 have HB := Aside0.mk (Below.refl w.heap.size w)
 have H : ((targumlaw8_known.f k).bind fun t377 => (if t377 = true then (if (a0.size : Int) > 30 then (targumlaw8_Num12Parts.j0 k a0 a1 a2 a3 a4 a5 a6 a7 true) else (if (a1.size : Int) > 30 then (targumlaw8_Num12Parts.j0 k a0 a1 a2 a3 a4 a5 a6 a7 true) else (if (a2.size : Int) < 1 then (targumlaw8_Num12Parts.j0 k a0 a1 a2 a3 a4 a5 a6 a7 true) else (if (a2.size : Int) > 30 then (targumlaw8_Num12Parts.j0 k a0 a1 a2 a3 a4 a5 a6 a7 true) else (if a5 = true then (if (wrap64 ((a0.size : Int) + (a1.size : Int))) = 0 then (targumlaw8_Num12Parts.j0 k a0 a1 a2 a3 a4 a5 a6 a7 true) else (targumlaw8_Num12Parts.j0 k a0 a1 a2 a3 a4 a5 a6 a7 false)) else (if (a0.size : Int) = 0 then (targumlaw8_Num12Parts.j0 k a0 a1 a2 a3 a4 a5 a6 a7 true) else (if (wrap64 ((a0.size : Int) + (a1.size : Int))) = 0 then (targumlaw8_Num12Parts.j0 k a0 a1 a2 a3 a4 a5 a6 a7 true) else (targumlaw8_Num12Parts.j0 k a0 a1 a2 a3 a4 a5 a6 a7 (!a6))))))))) else (some false))) = some r := h
 clear h
 replace H := Option.bind_eq_some_iff.mp H
 obtain ⟨t377, A90, H⟩ := H
 replace H : (if t377 = true then (if (a0.size : Int) > 30 then (targumlaw8_Num12Parts.j0 k a0 a1 a2 a3 a4 a5 a6 a7 true) else (if (a1.size : Int) > 30 then (targumlaw8_Num12Parts.j0 k a0 a1 a2 a3 a4 a5 a6 a7 true) else (if (a2.size : Int) < 1 then (targumlaw8_Num12Parts.j0 k a0 a1 a2 a3 a4 a5 a6 a7 true) else (if (a2.size : Int) > 30 then (targumlaw8_Num12Parts.j0 k a0 a1 a2 a3 a4 a5 a6 a7 true) else (if a5 = true then (if (wrap64 ((a0.size : Int) + (a1.size : Int))) = 0 then (targumlaw8_Num12Parts.j0 k a0 a1 a2 a3 a4 a5 a6 a7 true) else (targumlaw8_Num12Parts.j0 k a0 a1 a2 a3 a4 a5 a6 a7 false)) else (if (a0.size : Int) = 0 then (targumlaw8_Num12Parts.j0 k a0 a1 a2 a3 a4 a5 a6 a7 true) else (if (wrap64 ((a0.size : Int) + (a1.size : Int))) = 0 then (targumlaw8_Num12Parts.j0 k a0 a1 a2 a3 a4 a5 a6 a7 true) else (targumlaw8_Num12Parts.j0 k a0 a1 a2 a3 a4 a5 a6 a7 (!a6))))))))) else (some false)) = some r := H
 have A9 := Aside0.mk A90
 clear A90
 by_cases c10 : t377 = true
 ·subst c10
  have H1 : (if (a0.size : Int) > 30 then (targumlaw8_Num12Parts.j0 k a0 a1 a2 a3 a4 a5 a6 a7 true) else (if (a1.size : Int) > 30 then (targumlaw8_Num12Parts.j0 k a0 a1 a2 a3 a4 a5 a6 a7 true) else (if (a2.size : Int) < 1 then (targumlaw8_Num12Parts.j0 k a0 a1 a2 a3 a4 a5 a6 a7 true) else (if (a2.size : Int) > 30 then (targumlaw8_Num12Parts.j0 k a0 a1 a2 a3 a4 a5 a6 a7 true) else (if a5 = true then (if (wrap64 ((a0.size : Int) + (a1.size : Int))) = 0 then (targumlaw8_Num12Parts.j0 k a0 a1 a2 a3 a4 a5 a6 a7 true) else (targumlaw8_Num12Parts.j0 k a0 a1 a2 a3 a4 a5 a6 a7 false)) else (if (a0.size : Int) = 0 then (targumlaw8_Num12Parts.j0 k a0 a1 a2 a3 a4 a5 a6 a7 true) else (if (wrap64 ((a0.size : Int) + (a1.size : Int))) = 0 then (targumlaw8_Num12Parts.j0 k a0 a1 a2 a3 a4 a5 a6 a7 true) else (targumlaw8_Num12Parts.j0 k a0 a1 a2 a3 a4 a5 a6 a7 (!a6))))))))) = some r := by rw [if_pos rfl] at H; exact H
  clear H
  have H := H1
  clear H1
  have HC11 := Aside0.mk H
  clear H
  go_enter Tryd.func6, Tryd.ntmps6
  go_upto_region 3 with (first | ((with_reducible refine gate_callee (f := 8) rfl ?_); refine goesL_ (some 30) rfl rfl Tryd.func8 (by kernel_rfl) rfl #[] rfl (by (try simp only [List.map_toArray, List.map_cons, List.map_nil]); first | done | rfl | (simp only [List.length_drop, List.length_take]; rfl)) ?_; (with_reducible refine (targumlaw8_known.calls k  true _ ?side1 A9.out).mono ?_); (case side1 => exact Go.Proofs.YtbjlcipamdgnjaaDoor.Room.PowTab_below HG.out bl); rintro e w12 ⟨rfl, hb⟩; refine ⟨_, rfl, ?_⟩; have n0_ := Aside0.mk (below_step bl hb); clear HB; have HB := n0_; clear n0_; (try clear hb); (try clear hb2); (try clear hk); (try clear hi)))
  (try simp only [Act.put, List.setIfInBounds_toArray, List.set_cons_zero, List.set_cons_succ])
  go_cut [74] (fun v74 wc => ∃ (kq : Nat) (x74_10 : Bool), v74 = .bool x74_10 ∧ Aside0 (targumlaw8_Num12Parts.j0 kq a0 a1 a2 a3 a4 a5 a6 a7 x74_10 = some r) ∧ Aside0 (kq ≤ k) ∧ Aside0 (Below w.heap.size w wc))
  case first =>
   have H := HC11.out
   clear HC11
   by_cases c13 : (a0.size : Int) > 30
   ·rw [if_pos c13] at H
    have c13b0 : decide (30 < (a0.size : Int)) = true := decide_eq_true c13
    have c13b1 : decide (30 < a0.size) = true := decide_eq_true (by omega)
    clear c13
    (first | rw [c13b0] | (simp only [i64_w, i32_w]; rw [c13b0]) | skip)
    have H' := Aside0.mk H
    clear H
    go_wp2
    go_meet
    case rel => exact ⟨_, (true), (by first | rfl | (simp; done) | (simp [*]; done) | (simp [wrap64]; done)), H', ⟨by first | omega | exact Nat.le_refl _⟩, ⟨bl⟩⟩
   ·rw [if_neg c13] at H
    have c13b0 : decide (30 < (a0.size : Int)) = false := decide_eq_false c13
    have c13b1 : decide (30 < a0.size) = false := decide_eq_false (by omega)
    clear c13
    (first | rw [c13b0] | (simp only [i64_w, i32_w]; rw [c13b0]) | skip)
    by_cases c14 : (a1.size : Int) > 30
    ·rw [if_pos c14] at H
     have c14b0 : decide (30 < (a1.size : Int)) = true := decide_eq_true c14
     have c14b1 : decide (30 < a1.size) = true := decide_eq_true (by omega)
     clear c14
     have H' := Aside0.mk H
     clear H
     go_wp2
     go_meet
     case rel => exact ⟨_, (true), (by first | rfl | (simp; done) | (simp [*]; done) | (simp [wrap64]; done)), H', ⟨by first | omega | exact Nat.le_refl _⟩, ⟨bl⟩⟩
    ·rw [if_neg c14] at H
     have c14b0 : decide (30 < (a1.size : Int)) = false := decide_eq_false c14
     have c14b1 : decide (30 < a1.size) = false := decide_eq_false (by omega)
     clear c14
     by_cases c15 : (a2.size : Int) < 1
     ·rw [if_pos c15] at H
      have c15b0 : decide ((a2.size : Int) < 1) = true := decide_eq_true c15
      have c15b1 : decide (a2.size < 1) = true := decide_eq_true (by omega)
      clear c15
      have H' := Aside0.mk H
      clear H
      go_wp2
      go_meet
      case rel => exact ⟨_, (true), (by first | rfl | (simp; done) | (simp [*]; done) | (simp [wrap64]; done)), H', ⟨by first | omega | exact Nat.le_refl _⟩, ⟨bl⟩⟩
     ·rw [if_neg c15] at H
      have c15b0 : decide ((a2.size : Int) < 1) = false := decide_eq_false c15
      have c15b1 : decide (a2.size < 1) = false := decide_eq_false (by omega)
      clear c15
      by_cases c16 : (a2.size : Int) > 30
      ·rw [if_pos c16] at H
       have c16b0 : decide (30 < (a2.size : Int)) = true := decide_eq_true c16
       have c16b1 : decide (30 < a2.size) = true := decide_eq_true (by omega)
       clear c16
       have H' := Aside0.mk H
       clear H
       go_wp2
       go_meet
       case rel => exact ⟨_, (true), (by first | rfl | (simp; done) | (simp [*]; done) | (simp [wrap64]; done)), H', ⟨by first | omega | exact Nat.le_refl _⟩, ⟨bl⟩⟩
      ·rw [if_neg c16] at H
       have c16b0 : decide (30 < (a2.size : Int)) = false := decide_eq_false c16
       have c16b1 : decide (30 < a2.size) = false := decide_eq_false (by omega)
       clear c16
       by_cases c17 : a5 = true
       ·subst c17
        have H1 : (if (wrap64 ((a0.size : Int) + (a1.size : Int))) = 0 then (targumlaw8_Num12Parts.j0 k a0 a1 a2 a3 a4 true a6 a7 true) else (targumlaw8_Num12Parts.j0 k a0 a1 a2 a3 a4 true a6 a7 false)) = some r := by rw [if_pos rfl] at H; exact H
        clear H
        have H := H1
        clear H1
        by_cases c18 : (wrap64 ((a0.size : Int) + (a1.size : Int))) = 0
        ·rw [if_pos c18] at H
         have c18b0 : ((wrap64 ((a0.size : Int) + (a1.size : Int))) == 0) = true := beq_iff_eq.mpr c18
         have c18b1 : ((wrap64 ((a0.size : Int) + (a1.size : Int))) != 0) = false := bne_eq_false_iff_eq.mpr c18
         clear c18
         have H' := Aside0.mk H
         clear H
         go_wp2
         go_meet
         case rel => exact ⟨_, (true), (by first | rfl | (simp; done) | (simp [*]; done) | (simp [wrap64]; done)), H', ⟨by first | omega | exact Nat.le_refl _⟩, ⟨bl⟩⟩
        ·rw [if_neg c18] at H
         have c18b0 : ((wrap64 ((a0.size : Int) + (a1.size : Int))) == 0) = false := beq_eq_false_iff_ne.mpr c18
         have c18b1 : ((wrap64 ((a0.size : Int) + (a1.size : Int))) != 0) = true := bne_iff_ne.mpr c18
         have H' := Aside0.mk H
         clear H
         go_wp2
         go_meet
         case rel => exact ⟨_, (false), (by first | rfl | (simp; done) | (simp [*]; done) | (simp [wrap64]; done)), H', ⟨by first | omega | exact Nat.le_refl _⟩, ⟨bl⟩⟩
       ·replace c17 := Bool.eq_false_iff.mpr c17
        subst c17
        have H1 : (if (a0.size : Int) = 0 then (targumlaw8_Num12Parts.j0 k a0 a1 a2 a3 a4 false a6 a7 true) else (if (wrap64 ((a0.size : Int) + (a1.size : Int))) = 0 then (targumlaw8_Num12Parts.j0 k a0 a1 a2 a3 a4 false a6 a7 true) else (targumlaw8_Num12Parts.j0 k a0 a1 a2 a3 a4 false a6 a7 (!a6)))) = some r := by rw [if_neg (show ¬ (false = true) by decide)] at H; exact H
        clear H
        have H := H1
        clear H1
        by_cases c19 : (a0.size : Int) = 0
        ·rw [if_pos c19] at H
         have c19b0 : ((a0.size : Int) == 0) = true := beq_iff_eq.mpr c19
         have c19b1 : ((a0.size : Int) != 0) = false := bne_eq_false_iff_eq.mpr c19
         clear c19
         have H' := Aside0.mk H
         clear H
         go_wp2
         go_meet
         case rel => exact ⟨_, (true), (by first | rfl | (simp; done) | (simp [*]; done) | (simp [wrap64]; done)), H', ⟨by first | omega | exact Nat.le_refl _⟩, ⟨bl⟩⟩
        ·rw [if_neg c19] at H
         have c19b0 : ((a0.size : Int) == 0) = false := beq_eq_false_iff_ne.mpr c19
         have c19b1 : ((a0.size : Int) != 0) = true := bne_iff_ne.mpr c19
         by_cases c20 : (wrap64 ((a0.size : Int) + (a1.size : Int))) = 0
         ·rw [if_pos c20] at H
          have c20b0 : ((wrap64 ((a0.size : Int) + (a1.size : Int))) == 0) = true := beq_iff_eq.mpr c20
          have c20b1 : ((wrap64 ((a0.size : Int) + (a1.size : Int))) != 0) = false := bne_eq_false_iff_eq.mpr c20
          clear c20
          have H' := Aside0.mk H
          clear H
          go_wp2
          go_meet
          case rel => exact ⟨_, (true), (by first | rfl | (simp; done) | (simp [*]; done) | (simp [wrap64]; done)), H', ⟨by first | omega | exact Nat.le_refl _⟩, ⟨bl⟩⟩
         ·rw [if_neg c20] at H
          have c20b0 : ((wrap64 ((a0.size : Int) + (a1.size : Int))) == 0) = false := beq_eq_false_iff_ne.mpr c20
          have c20b1 : ((wrap64 ((a0.size : Int) + (a1.size : Int))) != 0) = true := bne_iff_ne.mpr c20
          have H' := Aside0.mk H
          clear H
          go_wp2
          go_meet
          case rel => exact ⟨_, (!a6), (by first | rfl | (simp; done) | (simp [*]; done) | (simp [wrap64]; done)), H', ⟨by first | omega | exact Nat.le_refl _⟩, ⟨bl⟩⟩
  case rest =>
   clear HC11
   try clear c1; try clear c2; try clear p2; try clear c6; try clear p6; try clear c8; try clear c10; try clear c13; try clear c13b0; try clear c13b1; try clear c14; try clear c14b0; try clear c14b1; try clear c15; try clear c15b0; try clear c15b1; try clear c16; try clear c16b0; try clear c16b1; try clear c17; try clear c18; try clear c18b0; try clear c18b1; try clear c19; try clear c19b0; try clear c19b1; try clear c20; try clear c20b0; try clear c20b1
   obtain ⟨kq, x74_10, rfl, HA, HJ10, HB⟩ := hcut
   cases kq with
   | zero => exact absurd HA.out (by simp [targumlaw8_Num12Parts.j0])
   | succ kj10 =>
    have H := HA.out
    clear HA
    simp only [targumlaw8_Num12Parts.j0] at H
    by_cases c21 : x74_10 = true
    ·subst c21
     have H1 : (some true) = some r := by rw [if_pos rfl] at H; exact H
     clear H
     have H := H1
     clear H1
     obtain rfl := Option.some.inj H
     go_wp2
     go_ret
     exact ⟨by first | rfl | (simp [errW_none, errW_some] <;> rfl) | (simp [*, errW_none, errW_some] <;> rfl), bl⟩
    ·replace c21 := Bool.eq_false_iff.mpr c21
     subst c21
     have H1 : ((targumlaw8_digits.f kj10 a0).bind fun t378 => (if a5 = true then (if t378.size + 1 ≤ 9223372036854775807 then ((targumlaw8_digits.f kj10 a1).bind fun t379 => (if (t378 ++ (⟨#[46]⟩ : ByteArray)).size + t379.size ≤ 9223372036854775807 then ((targumlaw8_digits.f kj10 a1).bind fun t380 => (targumlaw8_Num12Parts.j1 kj10 a0 a2 a3 a4 a6 a7 ((t378 ++ (⟨#[46]⟩ : ByteArray)) ++ t379) t380 (⟨#[48]⟩ : ByteArray))) else (none))) else (none)) else (targumlaw8_Num12Parts.j1 kj10 a0 a2 a3 a4 a6 a7 t378 (⟨#[]⟩ : ByteArray) (⟨#[48]⟩ : ByteArray)))) = some r := by rw [if_neg (show ¬ (false = true) by decide)] at H; exact H
     clear H
     have H := H1
     clear H1
     replace H := Option.bind_eq_some_iff.mp H
     obtain ⟨t378, A220, H⟩ := H
     replace H : (if a5 = true then (if t378.size + 1 ≤ 9223372036854775807 then ((targumlaw8_digits.f kj10 a1).bind fun t379 => (if (t378 ++ (⟨#[46]⟩ : ByteArray)).size + t379.size ≤ 9223372036854775807 then ((targumlaw8_digits.f kj10 a1).bind fun t380 => (targumlaw8_Num12Parts.j1 kj10 a0 a2 a3 a4 a6 a7 ((t378 ++ (⟨#[46]⟩ : ByteArray)) ++ t379) t380 (⟨#[48]⟩ : ByteArray))) else (none))) else (none)) else (targumlaw8_Num12Parts.j1 kj10 a0 a2 a3 a4 a6 a7 t378 (⟨#[]⟩ : ByteArray) (⟨#[48]⟩ : ByteArray))) = some r := H
     have A22 := Aside0.mk A220
     clear A220
     have HC23 := Aside0.mk H
     clear H
     go_upto_if 77 with (first | ((with_reducible refine gate_callee (f := 14) rfl ?_); refine goesL_ (some 76) rfl rfl Tryd.func14 (by kernel_rfl) rfl #[.string a0] rfl (by (try simp only [List.map_toArray, List.map_cons, List.map_nil]); first | done | rfl | (simp only [List.length_drop, List.length_take]; rfl)) ?_; (with_reducible refine (targumlaw8_digits.calls kj10 a0 t378 _ A22.out).mono ?_); rintro e w24 ⟨rfl, hb⟩; refine ⟨_, rfl, ?_⟩; have n0_ := Aside0.mk (below_step bl hb); clear HB; have HB := n0_; clear n0_; (try clear hb); (try clear hb2); (try clear hk); (try clear hi)))
     (try simp only [Act.put, List.setIfInBounds_toArray, List.set_cons_zero, List.set_cons_succ])
     go_cut [17, 18] (fun v17 v18 wc => ∃ (kq : Nat) (x17_22 : ByteArray) (x18_22 : ByteArray), v17 = .string x17_22 ∧ v18 = .string x18_22 ∧ Aside0 (targumlaw8_Num12Parts.j1 kq a0 a2 a3 a4 a6 a7 x17_22 x18_22 (⟨#[48]⟩ : ByteArray) = some r) ∧ Aside0 (kq ≤ kj10) ∧ Aside0 (Below w.heap.size w wc))
     case first =>
      have H := HC23.out
      clear HC23
      by_cases c25 : a5 = true
      ·subst c25
       have H1 : (if t378.size + 1 ≤ 9223372036854775807 then ((targumlaw8_digits.f kj10 a1).bind fun t379 => (if (t378 ++ (⟨#[46]⟩ : ByteArray)).size + t379.size ≤ 9223372036854775807 then ((targumlaw8_digits.f kj10 a1).bind fun t380 => (targumlaw8_Num12Parts.j1 kj10 a0 a2 a3 a4 a6 a7 ((t378 ++ (⟨#[46]⟩ : ByteArray)) ++ t379) t380 (⟨#[48]⟩ : ByteArray))) else (none))) else (none)) = some r := by rw [if_pos rfl] at H; exact H
       clear H
       have H := H1
       clear H1
       by_cases c26 : t378.size + 1 ≤ 9223372036854775807
       ·rw [if_pos c26] at H
        have c26b0 := eq_true c26
        have c26b1 : decide (t378.size + 1 ≤ 9223372036854775807) = true := decide_eq_true c26
        try have c26b2 : (9223372036854775807 < t378.size + 1) = False := eq_false (Nat.not_lt.2 c26)
        replace H := Option.bind_eq_some_iff.mp H
        obtain ⟨t379, A270, H⟩ := H
        replace H : (if (t378 ++ (⟨#[46]⟩ : ByteArray)).size + t379.size ≤ 9223372036854775807 then ((targumlaw8_digits.f kj10 a1).bind fun t380 => (targumlaw8_Num12Parts.j1 kj10 a0 a2 a3 a4 a6 a7 ((t378 ++ (⟨#[46]⟩ : ByteArray)) ++ t379) t380 (⟨#[48]⟩ : ByteArray))) else (none)) = some r := H
        have A27 := Aside0.mk A270
        clear A270
        by_cases c28 : (t378 ++ (⟨#[46]⟩ : ByteArray)).size + t379.size ≤ 9223372036854775807
        ·rw [if_pos c28] at H
         have c28b0 := eq_true c28
         have c28b1 : decide ((t378 ++ (⟨#[46]⟩ : ByteArray)).size + t379.size ≤ 9223372036854775807) = true := decide_eq_true c28
         try have c28b2 : (9223372036854775807 < (t378 ++ (⟨#[46]⟩ : ByteArray)).size + t379.size) = False := eq_false (Nat.not_lt.2 c28)
         try have c28b3 : (9223372036854775807 < t378.size + 1 + t379.size) = False := eq_false (Nat.not_lt.2 (by have z_ := c28; simp only [ByteArray.size_append, ByteArray.size_extract, Nat.min_self] at z_; exact z_))
         replace H := Option.bind_eq_some_iff.mp H
         obtain ⟨t380, A290, H⟩ := H
         replace H : (targumlaw8_Num12Parts.j1 kj10 a0 a2 a3 a4 a6 a7 ((t378 ++ (⟨#[46]⟩ : ByteArray)) ++ t379) t380 (⟨#[48]⟩ : ByteArray)) = some r := H
         have A29 := Aside0.mk A290
         clear A290
         have H' := Aside0.mk H
         clear H
         go_wp2_with (first | ((with_reducible refine gate_callee (f := 14) rfl ?_); refine goesL_ (some 81) rfl rfl Tryd.func14 (by kernel_rfl) rfl #[.string a1] rfl (by (try simp only [List.map_toArray, List.map_cons, List.map_nil]); first | done | rfl | (simp only [List.length_drop, List.length_take]; rfl)) ?_; (with_reducible refine (targumlaw8_digits.calls kj10 a1 t379 _ A27.out).mono ?_); rintro e w30 ⟨rfl, hb⟩; refine ⟨_, rfl, ?_⟩; have n0_ := Aside0.mk (below_step bl hb); clear HB; have HB := n0_; clear n0_; (try clear hb); (try clear hb2); (try clear hk); (try clear hi); clear A27) | ((with_reducible refine gate_callee (f := 14) rfl ?_); refine goesL_ (some 84) rfl rfl Tryd.func14 (by kernel_rfl) rfl #[.string a1] rfl (by (try simp only [List.map_toArray, List.map_cons, List.map_nil]); first | done | rfl | (simp only [List.length_drop, List.length_take]; rfl)) ?_; (with_reducible refine (targumlaw8_digits.calls kj10 a1 t380 _ A29.out).mono ?_); rintro e w31 ⟨rfl, hb⟩; refine ⟨_, rfl, ?_⟩; have n0_ := Aside0.mk (below_step bl hb); clear HB; have HB := n0_; clear n0_; (try clear hb); (try clear hb2); (try clear hk); (try clear hi); clear A29))
         go_meet
         case rel => exact ⟨_, ((t378 ++ (⟨#[46]⟩ : ByteArray)) ++ t379), (t380), (by first | rfl | (simp; done) | (simp [*]; done) | (simp [wrap64]; done)), (by first | rfl | (simp; done) | (simp [*]; done) | (simp [wrap64]; done)), H', ⟨by have := HJ10.out; first | omega | exact Nat.le_refl _⟩, ⟨bl⟩⟩
        ·rw [if_neg c28] at H
         exact absurd H (by simp)
       ·rw [if_neg c26] at H
        exact absurd H (by simp)
      ·replace c25 := Bool.eq_false_iff.mpr c25
       subst c25
       have H1 : (targumlaw8_Num12Parts.j1 kj10 a0 a2 a3 a4 a6 a7 t378 (⟨#[]⟩ : ByteArray) (⟨#[48]⟩ : ByteArray)) = some r := by rw [if_neg (show ¬ (false = true) by decide)] at H; exact H
       clear H
       have H := H1
       clear H1
       have H' := Aside0.mk H
       clear H
       go_wp2
       go_meet
       case rel => exact ⟨_, (t378), ((⟨#[]⟩ : ByteArray)), (by first | rfl | (simp; done) | (simp [*]; done) | (simp [wrap64]; done)), (by first | rfl | (simp; done) | (simp [*]; done) | (simp [wrap64]; done)), H', ⟨by have := HJ10.out; first | omega | exact Nat.le_refl _⟩, ⟨bl⟩⟩
     case rest =>
      clear HC23
      try clear c1; try clear c2; try clear p2; try clear c6; try clear p6; try clear c8; try clear c10; try clear c13; try clear c13b0; try clear c13b1; try clear c14; try clear c14b0; try clear c14b1; try clear c15; try clear c15b0; try clear c15b1; try clear c16; try clear c16b0; try clear c16b1; try clear c17; try clear c18; try clear c18b0; try clear c18b1; try clear c19; try clear c19b0; try clear c19b1; try clear c20; try clear c20b0; try clear c20b1; try clear c21; try clear c25; try clear c26; try clear c26b0; try clear c26b1; try clear c26b2; try clear c28; try clear c28b0; try clear c28b1; try clear c28b2; try clear p2; try clear p6
      obtain ⟨kq, x17_22, x18_22, rfl, rfl, HA, HJ22, HB⟩ := hcut
      cases kq with
      | zero => exact absurd HA.out (by simp [targumlaw8_Num12Parts.j1])
      | succ kj22 =>
       have H := HA.out
       clear HA
       simp only [targumlaw8_Num12Parts.j1] at H
       have HC32 := Aside0.mk H
       clear H
       go_upto_if 85 with (fail)
       go_cut [17, 19] (fun v17 v19 wc => ∃ (kq : Nat) (x17_31 : ByteArray) (x19_31 : ByteArray), v17 = .string x17_31 ∧ v19 = .string x19_31 ∧ Aside0 (targumlaw8_Num12Parts.j4 kq a0 a3 x17_31 x18_22 x19_31 = some r) ∧ Aside0 (kq ≤ kj22) ∧ Aside0 (Below w.heap.size w wc))
       case first =>
        have H := HC32.out
        clear HC32
        by_cases c33 : a6 = true
        ·subst c33
         have H1 : (if a4 = true then (targumlaw8_Num12Parts.j2 kj22 a0 a2 a3 a4 a7 x17_22 x18_22 (⟨#[45]⟩ : ByteArray)) else (targumlaw8_Num12Parts.j2 kj22 a0 a2 a3 a4 a7 x17_22 x18_22 (⟨#[43]⟩ : ByteArray))) = some r := by rw [if_pos rfl] at H; exact H
         clear H
         have H := H1
         clear H1
         have HC34 := Aside0.mk H
         clear H
         go_upto_if 86 with (fail)
         go_cut [20] (fun v20 wc => ∃ (kq : Nat) (x20_33 : ByteArray), v20 = .string x20_33 ∧ Aside0 (targumlaw8_Num12Parts.j2 kq a0 a2 a3 a4 a7 x17_22 x18_22 x20_33 = some r) ∧ Aside0 (kq ≤ kj22) ∧ Aside0 (Below w.heap.size w wc))
         case first =>
          have H := HC34.out
          clear HC34
          by_cases c35 : a4 = true
          ·subst c35
           have H1 : (targumlaw8_Num12Parts.j2 kj22 a0 a2 a3 true a7 x17_22 x18_22 (⟨#[45]⟩ : ByteArray)) = some r := by rw [if_pos rfl] at H; exact H
           clear H
           have H := H1
           clear H1
           have H' := Aside0.mk H
           clear H
           go_wp2
           go_meet
           case rel => exact ⟨_, ((⟨#[45]⟩ : ByteArray)), (by first | rfl | (simp; done) | (simp [*]; done) | (simp [wrap64]; done)), H', ⟨by have := HJ10.out; have := HJ22.out; first | omega | exact Nat.le_refl _⟩, ⟨bl⟩⟩
          ·replace c35 := Bool.eq_false_iff.mpr c35
           subst c35
           have H1 : (targumlaw8_Num12Parts.j2 kj22 a0 a2 a3 false a7 x17_22 x18_22 (⟨#[43]⟩ : ByteArray)) = some r := by rw [if_neg (show ¬ (false = true) by decide)] at H; exact H
           clear H
           have H := H1
           clear H1
           have H' := Aside0.mk H
           clear H
           go_wp2
           go_meet
           case rel => exact ⟨_, ((⟨#[43]⟩ : ByteArray)), (by first | rfl | (simp; done) | (simp [*]; done) | (simp [wrap64]; done)), H', ⟨by have := HJ10.out; have := HJ22.out; first | omega | exact Nat.le_refl _⟩, ⟨bl⟩⟩
         case rest =>
          clear HC34
          try clear c1; try clear c2; try clear p2; try clear c3; try clear c6; try clear p6; try clear c8; try clear c10; try clear c13; try clear c13b0; try clear c13b1; try clear c14; try clear c14b0; try clear c14b1; try clear c15; try clear c15b0; try clear c15b1; try clear c16; try clear c16b0; try clear c16b1; try clear c17; try clear c18; try clear c18b0; try clear c18b1; try clear c19; try clear c19b0; try clear c19b1; try clear c20; try clear c20b0; try clear c20b1; try clear c21; try clear c25; try clear c26; try clear c26b0; try clear c26b1; try clear c26b2; try clear c28; try clear c28b0; try clear c28b1; try clear c28b2; try clear c33; try clear c35; try clear p2; try clear p6
          obtain ⟨kq, x20_33, rfl, HA, HJ33, HB⟩ := hcut
          cases kq with
          | zero => exact absurd HA.out (by simp [targumlaw8_Num12Parts.j2])
          | succ kj33 =>
           have H := HA.out
           clear HA
           simp only [targumlaw8_Num12Parts.j2] at H
           have HC36 := Aside0.mk H
           clear H
           go_upto_region 12 with (fail)
           go_cut [91] (fun v91 wc => ∃ (kq : Nat) (x91_35 : Bool), v91 = .bool x91_35 ∧ Aside0 (targumlaw8_Num12Parts.j3 kq a0 a2 a3 a4 x17_22 x18_22 x20_33 x91_35 = some r) ∧ Aside0 (kq ≤ kj33) ∧ Aside0 (Below w.heap.size w wc))
           case first =>
            have H := HC36.out
            clear HC36
            by_cases c37 : a7 = true
            ·subst c37
             have H1 : (targumlaw8_Num12Parts.j3 kj33 a0 a2 a3 a4 x17_22 x18_22 x20_33 (!a4)) = some r := by rw [if_pos rfl] at H; exact H
             clear H
             have H := H1
             clear H1
             have H' := Aside0.mk H
             clear H
             go_wp2
             go_meet
             case rel => exact ⟨_, (!a4), (by first | rfl | (simp; done) | (simp [*]; done) | (simp [wrap64]; done)), H', ⟨by have := HJ10.out; have := HJ22.out; have := HJ33.out; first | omega | exact Nat.le_refl _⟩, ⟨bl⟩⟩
            ·replace c37 := Bool.eq_false_iff.mpr c37
             subst c37
             have H1 : (targumlaw8_Num12Parts.j3 kj33 a0 a2 a3 a4 x17_22 x18_22 x20_33 false) = some r := by rw [if_neg (show ¬ (false = true) by decide)] at H; exact H
             clear H
             have H := H1
             clear H1
             have H' := Aside0.mk H
             clear H
             go_wp2
             go_meet
             case rel => exact ⟨_, (false), (by first | rfl | (simp; done) | (simp [*]; done) | (simp [wrap64]; done)), H', ⟨by have := HJ10.out; have := HJ22.out; have := HJ33.out; first | omega | exact Nat.le_refl _⟩, ⟨bl⟩⟩
           case rest =>
            clear HC36
            try clear c1; try clear c2; try clear p2; try clear c3; try clear c6; try clear p6; try clear c8; try clear c10; try clear c13; try clear c13b0; try clear c13b1; try clear c14; try clear c14b0; try clear c14b1; try clear c15; try clear c15b0; try clear c15b1; try clear c16; try clear c16b0; try clear c16b1; try clear c17; try clear c18; try clear c18b0; try clear c18b1; try clear c19; try clear c19b0; try clear c19b1; try clear c20; try clear c20b0; try clear c20b1; try clear c21; try clear c25; try clear c26; try clear c26b0; try clear c26b1; try clear c26b2; try clear c28; try clear c28b0; try clear c28b1; try clear c28b2; try clear c33; try clear c35; try clear c37; try clear p2; try clear p6
            obtain ⟨kq, x91_35, rfl, HA, HJ35, HB⟩ := hcut
            cases kq with
            | zero => exact absurd HA.out (by simp [targumlaw8_Num12Parts.j3])
            | succ kj35 =>
             have H := HA.out
             clear HA
             simp only [targumlaw8_Num12Parts.j3] at H
             by_cases c38 : x91_35 = true
             ·subst c38
              have H1 : (if x17_22.size + 1 ≤ 9223372036854775807 then (if (x17_22 ++ (⟨#[101]⟩ : ByteArray)).size + 0 ≤ 9223372036854775807 then ((targumlaw8_digits.f kj35 a2).bind fun t381 => (if ((x17_22 ++ (⟨#[101]⟩ : ByteArray)) ++ (⟨#[]⟩ : ByteArray)).size + t381.size ≤ 9223372036854775807 then ((targumlaw8_digits.f kj35 a2).bind fun t382 => ((targumref4_Norm.f kj35 a4 t382).bind fun t383 => (targumlaw8_Num12Parts.j4 kj35 a0 a3 (((x17_22 ++ (⟨#[101]⟩ : ByteArray)) ++ (⟨#[]⟩ : ByteArray)) ++ t381) x18_22 t383))) else (none))) else (none)) else (none)) = some r := by rw [if_pos rfl] at H; exact H
              clear H
              have H := H1
              clear H1
              by_cases c39 : x17_22.size + 1 ≤ 9223372036854775807
              ·rw [if_pos c39] at H
               have c39b0 := eq_true c39
               have c39b1 : decide (x17_22.size + 1 ≤ 9223372036854775807) = true := decide_eq_true c39
               try have c39b2 : (9223372036854775807 < x17_22.size + 1) = False := eq_false (Nat.not_lt.2 c39)
               by_cases c40 : (x17_22 ++ (⟨#[101]⟩ : ByteArray)).size + 0 ≤ 9223372036854775807
               ·rw [if_pos c40] at H
                have c40b0 := eq_true c40
                have c40b1 : decide ((x17_22 ++ (⟨#[101]⟩ : ByteArray)).size + 0 ≤ 9223372036854775807) = true := decide_eq_true c40
                try have c40b2 : (9223372036854775807 < (x17_22 ++ (⟨#[101]⟩ : ByteArray)).size + 0) = False := eq_false (Nat.not_lt.2 c40)
                try have c40b3 : (9223372036854775807 < x17_22.size + 1 + 0) = False := eq_false (Nat.not_lt.2 (by have z_ := c40; simp only [ByteArray.size_append, ByteArray.size_extract, Nat.min_self] at z_; exact z_))
                replace H := Option.bind_eq_some_iff.mp H
                obtain ⟨t381, A410, H⟩ := H
                replace H : (if ((x17_22 ++ (⟨#[101]⟩ : ByteArray)) ++ (⟨#[]⟩ : ByteArray)).size + t381.size ≤ 9223372036854775807 then ((targumlaw8_digits.f kj35 a2).bind fun t382 => ((targumref4_Norm.f kj35 a4 t382).bind fun t383 => (targumlaw8_Num12Parts.j4 kj35 a0 a3 (((x17_22 ++ (⟨#[101]⟩ : ByteArray)) ++ (⟨#[]⟩ : ByteArray)) ++ t381) x18_22 t383))) else (none)) = some r := H
                have A41 := Aside0.mk A410
                clear A410
                by_cases c42 : ((x17_22 ++ (⟨#[101]⟩ : ByteArray)) ++ (⟨#[]⟩ : ByteArray)).size + t381.size ≤ 9223372036854775807
                ·rw [if_pos c42] at H
                 have c42b0 := eq_true c42
                 have c42b1 : decide (((x17_22 ++ (⟨#[101]⟩ : ByteArray)) ++ (⟨#[]⟩ : ByteArray)).size + t381.size ≤ 9223372036854775807) = true := decide_eq_true c42
                 try have c42b2 : (9223372036854775807 < ((x17_22 ++ (⟨#[101]⟩ : ByteArray)) ++ (⟨#[]⟩ : ByteArray)).size + t381.size) = False := eq_false (Nat.not_lt.2 c42)
                 try have c42b3 : (9223372036854775807 < x17_22.size + 1 + 0 + t381.size) = False := eq_false (Nat.not_lt.2 (by have z_ := c42; simp only [ByteArray.size_append, ByteArray.size_extract, Nat.min_self] at z_; exact z_))
                 try have c42b5 : (9223372036854775807 < x17_22.size + 1 + t381.size) = False := eq_false (Nat.not_lt.2 (by have z_ := c42; simp only [ByteArray.size_append, ByteArray.size_extract, Nat.min_self] at z_; have e_ : (⟨#[]⟩ : ByteArray).size = 0 := rfl; omega))
                 replace H := Option.bind_eq_some_iff.mp H
                 obtain ⟨t382, A430, H⟩ := H
                 replace H : ((targumref4_Norm.f kj35 a4 t382).bind fun t383 => (targumlaw8_Num12Parts.j4 kj35 a0 a3 (((x17_22 ++ (⟨#[101]⟩ : ByteArray)) ++ (⟨#[]⟩ : ByteArray)) ++ t381) x18_22 t383)) = some r := H
                 have A43 := Aside0.mk A430
                 clear A430
                 replace H := Option.bind_eq_some_iff.mp H
                 obtain ⟨t383, A440, H⟩ := H
                 replace H : (targumlaw8_Num12Parts.j4 kj35 a0 a3 (((x17_22 ++ (⟨#[101]⟩ : ByteArray)) ++ (⟨#[]⟩ : ByteArray)) ++ t381) x18_22 t383) = some r := H
                 have A44 := Aside0.mk A440
                 clear A440
                 have H' := Aside0.mk H
                 clear H
                 go_wp2_with (first | ((with_reducible refine gate_callee (f := 14) rfl ?_); refine goesL_ (some 97) rfl rfl Tryd.func14 (by kernel_rfl) rfl #[.string a2] rfl (by (try simp only [List.map_toArray, List.map_cons, List.map_nil]); first | done | rfl | (simp only [List.length_drop, List.length_take]; rfl)) ?_; (with_reducible refine (targumlaw8_digits.calls kj35 a2 t381 _ A41.out).mono ?_); rintro e w45 ⟨rfl, hb⟩; refine ⟨_, rfl, ?_⟩; have n0_ := Aside0.mk (below_step bl hb); clear HB; have HB := n0_; clear n0_; (try clear hb); (try clear hb2); (try clear hk); (try clear hi); clear A41) | ((with_reducible refine gate_callee (f := 14) rfl ?_); refine goesL_ (some 101) rfl rfl Tryd.func14 (by kernel_rfl) rfl #[.string a2] rfl (by (try simp only [List.map_toArray, List.map_cons, List.map_nil]); first | done | rfl | (simp only [List.length_drop, List.length_take]; rfl)) ?_; (with_reducible refine (targumlaw8_digits.calls kj35 a2 t382 _ A43.out).mono ?_); rintro e w46 ⟨rfl, hb⟩; refine ⟨_, rfl, ?_⟩; have n0_ := Aside0.mk (below_step bl hb); clear HB; have HB := n0_; clear n0_; (try clear hb); (try clear hb2); (try clear hk); (try clear hi); clear A43) | ((with_reducible refine gate_callee (f := 18) rfl ?_); refine goesL_ (some 102) rfl rfl Tryd.func18 (by kernel_rfl) rfl #[.bool a4, .string t382] rfl (by (try simp only [List.map_toArray, List.map_cons, List.map_nil]); first | done | rfl | (simp only [List.length_drop, List.length_take]; rfl)) ?_; (with_reducible refine (targumref4_Norm.calls kj35 a4 t382 t383 _ A44.out).mono ?_); rintro e w' ⟨rfl, ⟨nd, rfl⟩⟩; refine ⟨_, rfl, ?_⟩))
                 go_meet
                 case rel => exact ⟨_, (((x17_22 ++ (⟨#[101]⟩ : ByteArray)) ++ (⟨#[]⟩ : ByteArray)) ++ t381), (t383), (by first | rfl | (simp; done) | (simp [*]; done) | (simp [wrap64]; done)), (by first | rfl | (simp; done) | (simp [*]; done) | (simp [wrap64]; done)), H', ⟨by have := HJ10.out; have := HJ22.out; have := HJ33.out; have := HJ35.out; first | omega | exact Nat.le_refl _⟩, ⟨bl⟩⟩
                ·rw [if_neg c42] at H
                 exact absurd H (by simp)
               ·rw [if_neg c40] at H
                exact absurd H (by simp)
              ·rw [if_neg c39] at H
               exact absurd H (by simp)
             ·replace c38 := Bool.eq_false_iff.mpr c38
              subst c38
              have H1 : (if x17_22.size + 1 ≤ 9223372036854775807 then (if (x17_22 ++ (⟨#[101]⟩ : ByteArray)).size + x20_33.size ≤ 9223372036854775807 then ((targumlaw8_digits.f kj35 a2).bind fun t384 => (if ((x17_22 ++ (⟨#[101]⟩ : ByteArray)) ++ x20_33).size + t384.size ≤ 9223372036854775807 then ((targumlaw8_digits.f kj35 a2).bind fun t385 => ((targumref4_Norm.f kj35 a4 t385).bind fun t386 => (targumlaw8_Num12Parts.j4 kj35 a0 a3 (((x17_22 ++ (⟨#[101]⟩ : ByteArray)) ++ x20_33) ++ t384) x18_22 t386))) else (none))) else (none)) else (none)) = some r := by rw [if_neg (show ¬ (false = true) by decide)] at H; exact H
              clear H
              have H := H1
              clear H1
              by_cases c47 : x17_22.size + 1 ≤ 9223372036854775807
              ·rw [if_pos c47] at H
               have c47b0 := eq_true c47
               have c47b1 : decide (x17_22.size + 1 ≤ 9223372036854775807) = true := decide_eq_true c47
               try have c47b2 : (9223372036854775807 < x17_22.size + 1) = False := eq_false (Nat.not_lt.2 c47)
               by_cases c48 : (x17_22 ++ (⟨#[101]⟩ : ByteArray)).size + x20_33.size ≤ 9223372036854775807
               ·rw [if_pos c48] at H
                have c48b0 := eq_true c48
                have c48b1 : decide ((x17_22 ++ (⟨#[101]⟩ : ByteArray)).size + x20_33.size ≤ 9223372036854775807) = true := decide_eq_true c48
                try have c48b2 : (9223372036854775807 < (x17_22 ++ (⟨#[101]⟩ : ByteArray)).size + x20_33.size) = False := eq_false (Nat.not_lt.2 c48)
                try have c48b3 : (9223372036854775807 < x17_22.size + 1 + x20_33.size) = False := eq_false (Nat.not_lt.2 (by have z_ := c48; simp only [ByteArray.size_append, ByteArray.size_extract, Nat.min_self] at z_; exact z_))
                replace H := Option.bind_eq_some_iff.mp H
                obtain ⟨t384, A490, H⟩ := H
                replace H : (if ((x17_22 ++ (⟨#[101]⟩ : ByteArray)) ++ x20_33).size + t384.size ≤ 9223372036854775807 then ((targumlaw8_digits.f kj35 a2).bind fun t385 => ((targumref4_Norm.f kj35 a4 t385).bind fun t386 => (targumlaw8_Num12Parts.j4 kj35 a0 a3 (((x17_22 ++ (⟨#[101]⟩ : ByteArray)) ++ x20_33) ++ t384) x18_22 t386))) else (none)) = some r := H
                have A49 := Aside0.mk A490
                clear A490
                by_cases c50 : ((x17_22 ++ (⟨#[101]⟩ : ByteArray)) ++ x20_33).size + t384.size ≤ 9223372036854775807
                ·rw [if_pos c50] at H
                 have c50b0 := eq_true c50
                 have c50b1 : decide (((x17_22 ++ (⟨#[101]⟩ : ByteArray)) ++ x20_33).size + t384.size ≤ 9223372036854775807) = true := decide_eq_true c50
                 try have c50b2 : (9223372036854775807 < ((x17_22 ++ (⟨#[101]⟩ : ByteArray)) ++ x20_33).size + t384.size) = False := eq_false (Nat.not_lt.2 c50)
                 try have c50b3 : (9223372036854775807 < x17_22.size + 1 + x20_33.size + t384.size) = False := eq_false (Nat.not_lt.2 (by have z_ := c50; simp only [ByteArray.size_append, ByteArray.size_extract, Nat.min_self] at z_; exact z_))
                 replace H := Option.bind_eq_some_iff.mp H
                 obtain ⟨t385, A510, H⟩ := H
                 replace H : ((targumref4_Norm.f kj35 a4 t385).bind fun t386 => (targumlaw8_Num12Parts.j4 kj35 a0 a3 (((x17_22 ++ (⟨#[101]⟩ : ByteArray)) ++ x20_33) ++ t384) x18_22 t386)) = some r := H
                 have A51 := Aside0.mk A510
                 clear A510
                 replace H := Option.bind_eq_some_iff.mp H
                 obtain ⟨t386, A520, H⟩ := H
                 replace H : (targumlaw8_Num12Parts.j4 kj35 a0 a3 (((x17_22 ++ (⟨#[101]⟩ : ByteArray)) ++ x20_33) ++ t384) x18_22 t386) = some r := H
                 have A52 := Aside0.mk A520
                 clear A520
                 have H' := Aside0.mk H
                 clear H
                 go_wp2_with (first | ((with_reducible refine gate_callee (f := 14) rfl ?_); refine goesL_ (some 97) rfl rfl Tryd.func14 (by kernel_rfl) rfl #[.string a2] rfl (by (try simp only [List.map_toArray, List.map_cons, List.map_nil]); first | done | rfl | (simp only [List.length_drop, List.length_take]; rfl)) ?_; (with_reducible refine (targumlaw8_digits.calls kj35 a2 t384 _ A49.out).mono ?_); rintro e w53 ⟨rfl, hb⟩; refine ⟨_, rfl, ?_⟩; have n0_ := Aside0.mk (below_step bl hb); clear HB; have HB := n0_; clear n0_; (try clear hb); (try clear hb2); (try clear hk); (try clear hi); clear A49) | ((with_reducible refine gate_callee (f := 14) rfl ?_); refine goesL_ (some 101) rfl rfl Tryd.func14 (by kernel_rfl) rfl #[.string a2] rfl (by (try simp only [List.map_toArray, List.map_cons, List.map_nil]); first | done | rfl | (simp only [List.length_drop, List.length_take]; rfl)) ?_; (with_reducible refine (targumlaw8_digits.calls kj35 a2 t385 _ A51.out).mono ?_); rintro e w54 ⟨rfl, hb⟩; refine ⟨_, rfl, ?_⟩; have n0_ := Aside0.mk (below_step bl hb); clear HB; have HB := n0_; clear n0_; (try clear hb); (try clear hb2); (try clear hk); (try clear hi); clear A51) | ((with_reducible refine gate_callee (f := 18) rfl ?_); refine goesL_ (some 102) rfl rfl Tryd.func18 (by kernel_rfl) rfl #[.bool a4, .string t385] rfl (by (try simp only [List.map_toArray, List.map_cons, List.map_nil]); first | done | rfl | (simp only [List.length_drop, List.length_take]; rfl)) ?_; (with_reducible refine (targumref4_Norm.calls kj35 a4 t385 t386 _ A52.out).mono ?_); rintro e w' ⟨rfl, ⟨nd, rfl⟩⟩; refine ⟨_, rfl, ?_⟩))
                 go_meet
                 case rel => exact ⟨_, (((x17_22 ++ (⟨#[101]⟩ : ByteArray)) ++ x20_33) ++ t384), (t386), (by first | rfl | (simp; done) | (simp [*]; done) | (simp [wrap64]; done)), (by first | rfl | (simp; done) | (simp [*]; done) | (simp [wrap64]; done)), H', ⟨by have := HJ10.out; have := HJ22.out; have := HJ33.out; have := HJ35.out; first | omega | exact Nat.le_refl _⟩, ⟨bl⟩⟩
                ·rw [if_neg c50] at H
                 exact absurd H (by simp)
               ·rw [if_neg c48] at H
                exact absurd H (by simp)
              ·rw [if_neg c47] at H
               exact absurd H (by simp)
        ·replace c33 := Bool.eq_false_iff.mpr c33
         subst c33
         have H1 : (targumlaw8_Num12Parts.j4 kj22 a0 a3 x17_22 x18_22 (⟨#[48]⟩ : ByteArray)) = some r := by rw [if_neg (show ¬ (false = true) by decide)] at H; exact H
         clear H
         have H := H1
         clear H1
         have H' := Aside0.mk H
         clear H
         go_wp2
         go_meet
         case rel => exact ⟨_, (x17_22), ((⟨#[48]⟩ : ByteArray)), (by first | rfl | (simp; done) | (simp [*]; done) | (simp [wrap64]; done)), (by first | rfl | (simp; done) | (simp [*]; done) | (simp [wrap64]; done)), H', ⟨by have := HJ10.out; have := HJ22.out; first | omega | exact Nat.le_refl _⟩, ⟨bl⟩⟩
       case rest =>
        clear HC32
        try clear c1; try clear c2; try clear p2; try clear c3; try clear c4; try clear c5; try clear c6; try clear p6; try clear c8; try clear c10; try clear c13; try clear c13b0; try clear c13b1; try clear c14; try clear c14b0; try clear c14b1; try clear c15; try clear c15b0; try clear c15b1; try clear c16; try clear c16b0; try clear c16b1; try clear c17; try clear c18; try clear c18b0; try clear c18b1; try clear c19; try clear c19b0; try clear c19b1; try clear c20; try clear c20b0; try clear c20b1; try clear c21; try clear c25; try clear c26; try clear c26b0; try clear c26b1; try clear c26b2; try clear c28; try clear c28b0; try clear c28b1; try clear c28b2; try clear c33; try clear c35; try clear c37; try clear c38; try clear c39; try clear c39b0; try clear c39b1; try clear c39b2; try clear c40; try clear c40b0; try clear c40b1; try clear c40b2; try clear c42; try clear c42b0; try clear c42b1; try clear c42b2; try clear c47; try clear c47b0; try clear c47b1; try clear c47b2; try clear c48; try clear c48b0; try clear c48b1; try clear c48b2; try clear c50; try clear c50b0; try clear c50b1; try clear c50b2; try clear p2; try clear p6
        obtain ⟨kq, x17_31, x19_31, rfl, rfl, HA, HJ31, HB⟩ := hcut
        cases kq with
        | zero => exact absurd HA.out (by simp [targumlaw8_Num12Parts.j4])
        | succ kj31 =>
         have H := HA.out
         clear HA
         simp only [targumlaw8_Num12Parts.j4] at H
         replace H := Option.bind_eq_some_iff.mp H
         obtain ⟨t387, A550, H⟩ := H
         replace H : ((targumref4_Make.f kj31 a3 t387 x18_22 x19_31).bind fun bt388 => (if a3 = true then (if 1 + x17_31.size ≤ 9223372036854775807 then ((num12_Float.f kj31 ((⟨#[45]⟩ : ByteArray) ++ x17_31)).bind fun bt394 => ((num12_Int.f kj31 ((⟨#[45]⟩ : ByteArray) ++ x17_31)).bind fun bt400 => (if ((⟨#[45]⟩ : ByteArray) ++ x17_31).size + 1 ≤ 9223372036854775807 then ((num12_Float.f kj31 (((⟨#[45]⟩ : ByteArray) ++ x17_31) ++ (⟨#[95]⟩ : ByteArray))).bind fun bt402 => (if bt394.2.2.2.2 = true then (if (bt394.1 == bt388.1 && (bt394.2.1 == bt388.2.1 && (bt394.2.2.1.toList == bt388.2.2.1.toList && (bt394.2.2.2.1.toList == bt388.2.2.2.1.toList)))) = true then (if bt400.2 = true then (some false) else (some (!bt402.2.2.2.2))) else (some false)) else (some false))) else (none)))) else (none)) else (if 0 + x17_31.size ≤ 9223372036854775807 then ((num12_Float.f kj31 ((⟨#[]⟩ : ByteArray) ++ x17_31)).bind fun bt408 => ((num12_Int.f kj31 ((⟨#[]⟩ : ByteArray) ++ x17_31)).bind fun bt414 => (if ((⟨#[]⟩ : ByteArray) ++ x17_31).size + 1 ≤ 9223372036854775807 then ((num12_Float.f kj31 (((⟨#[]⟩ : ByteArray) ++ x17_31) ++ (⟨#[95]⟩ : ByteArray))).bind fun bt416 => (if bt408.2.2.2.2 = true then (if (bt408.1 == bt388.1 && (bt408.2.1 == bt388.2.1 && (bt408.2.2.1.toList == bt388.2.2.1.toList && (bt408.2.2.2.1.toList == bt388.2.2.2.1.toList)))) = true then (if bt414.2 = true then (some false) else (some (!bt416.2.2.2.2))) else (some false)) else (some false))) else (none)))) else (none)))) = some r := H
         have A55 := Aside0.mk A550
         clear A550
         replace H := Option.bind_eq_some_iff.mp H
         obtain ⟨⟨t388, t389, t390, t391, t392⟩, A560, H⟩ := H
         replace H : (if a3 = true then (if 1 + x17_31.size ≤ 9223372036854775807 then ((num12_Float.f kj31 ((⟨#[45]⟩ : ByteArray) ++ x17_31)).bind fun bt394 => ((num12_Int.f kj31 ((⟨#[45]⟩ : ByteArray) ++ x17_31)).bind fun bt400 => (if ((⟨#[45]⟩ : ByteArray) ++ x17_31).size + 1 ≤ 9223372036854775807 then ((num12_Float.f kj31 (((⟨#[45]⟩ : ByteArray) ++ x17_31) ++ (⟨#[95]⟩ : ByteArray))).bind fun bt402 => (if bt394.2.2.2.2 = true then (if (bt394.1 == t388 && (bt394.2.1 == t389 && (bt394.2.2.1.toList == t390.toList && (bt394.2.2.2.1.toList == t391.toList)))) = true then (if bt400.2 = true then (some false) else (some (!bt402.2.2.2.2))) else (some false)) else (some false))) else (none)))) else (none)) else (if 0 + x17_31.size ≤ 9223372036854775807 then ((num12_Float.f kj31 ((⟨#[]⟩ : ByteArray) ++ x17_31)).bind fun bt408 => ((num12_Int.f kj31 ((⟨#[]⟩ : ByteArray) ++ x17_31)).bind fun bt414 => (if ((⟨#[]⟩ : ByteArray) ++ x17_31).size + 1 ≤ 9223372036854775807 then ((num12_Float.f kj31 (((⟨#[]⟩ : ByteArray) ++ x17_31) ++ (⟨#[95]⟩ : ByteArray))).bind fun bt416 => (if bt408.2.2.2.2 = true then (if (bt408.1 == t388 && (bt408.2.1 == t389 && (bt408.2.2.1.toList == t390.toList && (bt408.2.2.2.1.toList == t391.toList)))) = true then (if bt414.2 = true then (some false) else (some (!bt416.2.2.2.2))) else (some false)) else (some false))) else (none)))) else (none))) = some r := H
         have A56 := Aside0.mk A560
         clear A560
         by_cases c57 : a3 = true
         ·subst c57
          have H1 : (if 1 + x17_31.size ≤ 9223372036854775807 then ((num12_Float.f kj31 ((⟨#[45]⟩ : ByteArray) ++ x17_31)).bind fun bt394 => ((num12_Int.f kj31 ((⟨#[45]⟩ : ByteArray) ++ x17_31)).bind fun bt400 => (if ((⟨#[45]⟩ : ByteArray) ++ x17_31).size + 1 ≤ 9223372036854775807 then ((num12_Float.f kj31 (((⟨#[45]⟩ : ByteArray) ++ x17_31) ++ (⟨#[95]⟩ : ByteArray))).bind fun bt402 => (if bt394.2.2.2.2 = true then (if (bt394.1 == t388 && (bt394.2.1 == t389 && (bt394.2.2.1.toList == t390.toList && (bt394.2.2.2.1.toList == t391.toList)))) = true then (if bt400.2 = true then (some false) else (some (!bt402.2.2.2.2))) else (some false)) else (some false))) else (none)))) else (none)) = some r := by rw [if_pos rfl] at H; exact H
          clear H
          have H := H1
          clear H1
          by_cases c58 : 1 + x17_31.size ≤ 9223372036854775807
          ·rw [if_pos c58] at H
           have c58b0 := eq_true c58
           have c58b1 : decide (1 + x17_31.size ≤ 9223372036854775807) = true := decide_eq_true c58
           try have c58b2 : (9223372036854775807 < 1 + x17_31.size) = False := eq_false (Nat.not_lt.2 c58)
           replace H := Option.bind_eq_some_iff.mp H
           obtain ⟨⟨t394, t395, t396, t397, t398⟩, A590, H⟩ := H
           replace H : ((num12_Int.f kj31 ((⟨#[45]⟩ : ByteArray) ++ x17_31)).bind fun bt400 => (if ((⟨#[45]⟩ : ByteArray) ++ x17_31).size + 1 ≤ 9223372036854775807 then ((num12_Float.f kj31 (((⟨#[45]⟩ : ByteArray) ++ x17_31) ++ (⟨#[95]⟩ : ByteArray))).bind fun bt402 => (if t398 = true then (if (t394 == t388 && (t395 == t389 && (t396.toList == t390.toList && (t397.toList == t391.toList)))) = true then (if bt400.2 = true then (some false) else (some (!bt402.2.2.2.2))) else (some false)) else (some false))) else (none))) = some r := H
           have A59 := Aside0.mk A590
           clear A590
           replace H := Option.bind_eq_some_iff.mp H
           obtain ⟨⟨t400, t401⟩, A600, H⟩ := H
           replace H : (if ((⟨#[45]⟩ : ByteArray) ++ x17_31).size + 1 ≤ 9223372036854775807 then ((num12_Float.f kj31 (((⟨#[45]⟩ : ByteArray) ++ x17_31) ++ (⟨#[95]⟩ : ByteArray))).bind fun bt402 => (if t398 = true then (if (t394 == t388 && (t395 == t389 && (t396.toList == t390.toList && (t397.toList == t391.toList)))) = true then (if t401 = true then (some false) else (some (!bt402.2.2.2.2))) else (some false)) else (some false))) else (none)) = some r := H
           have A60 := Aside0.mk A600
           clear A600
           by_cases c61 : ((⟨#[45]⟩ : ByteArray) ++ x17_31).size + 1 ≤ 9223372036854775807
           ·rw [if_pos c61] at H
            have c61b0 := eq_true c61
            have c61b1 : decide (((⟨#[45]⟩ : ByteArray) ++ x17_31).size + 1 ≤ 9223372036854775807) = true := decide_eq_true c61
            try have c61b2 : (9223372036854775807 < ((⟨#[45]⟩ : ByteArray) ++ x17_31).size + 1) = False := eq_false (Nat.not_lt.2 c61)
            try have c61b3 : (9223372036854775807 < 1 + x17_31.size + 1) = False := eq_false (Nat.not_lt.2 (by have z_ := c61; simp only [ByteArray.size_append, ByteArray.size_extract, Nat.min_self] at z_; exact z_))
            replace H := Option.bind_eq_some_iff.mp H
            obtain ⟨⟨t402, t403, t404, t405, t406⟩, A620, H⟩ := H
            replace H : (if t398 = true then (if (t394 == t388 && (t395 == t389 && (t396.toList == t390.toList && (t397.toList == t391.toList)))) = true then (if t401 = true then (some false) else (some (!t406))) else (some false)) else (some false)) = some r := H
            have A62 := Aside0.mk A620
            clear A620
            refine Classical.byCases (p := (t398 = true)) (fun c63 => ?x19) (fun c63 => ?y19)
            case' x19 =>
             subst c63
             have H1 : (if (t394 == t388 && (t395 == t389 && (t396.toList == t390.toList && (t397.toList == t391.toList)))) = true then (if t401 = true then (some false) else (some (!t406))) else (some false)) = some r := by rw [if_pos rfl] at H; exact H
             clear H
             have H := H1
             clear H1
             refine Classical.byCases (p := ((t394 == t388 && (t395 == t389 && (t396.toList == t390.toList && (t397.toList == t391.toList)))) = true)) (fun c64 => ?x20) (fun c64 => ?y20)
             case' x20 =>
              rw [if_pos c64] at H
              have c64b0 : (t394 == t388 && (t395 == t389 && (t396.toList == t390.toList && (t397.toList == t391.toList)))) = true := c64
              (try (have c64b1 : decide (t394 = t388 && (t395 == t389 && (t396.toList == t390.toList && (t397.toList == t391.toList)))) = true := by simpa using c64))
              (try (have c64b2 : (t394 == t388 && (t395 == t389 && (t396.toList == t390.toList && (t397.toList == t391.toList)))) = true := by simpa using c64))
              clear c64
              refine Classical.byCases (p := (t401 = true)) (fun c65 => ?x21) (fun c65 => ?y21)
              case' x21 =>
               subst c65
               have H1 : (some false) = some r := by rw [if_pos rfl] at H; exact H
               clear H
               have H := H1
               clear H1
               obtain rfl := Option.some.inj H
               skip
              case' y21 =>
               replace c65 := Bool.eq_false_iff.mpr c65
               subst c65
               have H1 : (some (!t406)) = some r := by rw [if_neg (show ¬ (false = true) by decide)] at H; exact H
               clear H
               have H := H1
               clear H1
               obtain rfl := Option.some.inj H
               skip
             case' y20 =>
              rw [if_neg c64] at H
              have c64b0 : (t394 == t388 && (t395 == t389 && (t396.toList == t390.toList && (t397.toList == t391.toList)))) = false := by simpa using c64
              (try (have c64b1 : decide (t394 = t388 && (t395 == t389 && (t396.toList == t390.toList && (t397.toList == t391.toList)))) = false := by simpa using c64))
              (try (have c64b2 : (t394 == t388 && (t395 == t389 && (t396.toList == t390.toList && (t397.toList == t391.toList)))) = false := by simpa using c64))
              (try (have c64b3 : ¬ (t394 = t388 && (t395 == t389 && (t396.toList == t390.toList && (t397.toList == t391.toList)))) := by simpa using c64))
              clear c64
              obtain rfl := Option.some.inj H
              skip
            case' y19 =>
             replace c63 := Bool.eq_false_iff.mpr c63
             subst c63
             have H1 : (some false) = some r := by rw [if_neg (show ¬ (false = true) by decide)] at H; exact H
             clear H
             have H := H1
             clear H1
             obtain rfl := Option.some.inj H
             skip
            case x21 | y21 | y20 | y19 =>
             as_aux_lemma =>
              go_wp2_with (first | ((with_reducible refine gate_callee (f := 14) rfl ?_); refine goesL_ (some 106) rfl rfl Tryd.func14 (by kernel_rfl) rfl #[.string a0] rfl (by (try simp only [List.map_toArray, List.map_cons, List.map_nil]); first | done | rfl | (simp only [List.length_drop, List.length_take]; rfl)) ?_; (with_reducible refine (targumlaw8_digits.calls _ _ _ _ A55.out).mono ?_); rintro e w98 ⟨rfl, hb⟩; refine ⟨_, rfl, ?_⟩; have n0_ := Aside0.mk (below_step bl hb); clear HB; have HB := n0_; clear n0_; (try clear hb); (try clear hb2); (try clear hk); (try clear hi)) | ((with_reducible refine gate_callee (f := 13) rfl ?_); refine goesL_ (some 109) rfl rfl Tryd.func13 (by kernel_rfl) rfl #[.bool true, .string t387, .string x18_22, .string x19_31] rfl (by (try simp only [List.map_toArray, List.map_cons, List.map_nil]); first | done | rfl | (simp only [List.length_drop, List.length_take]; rfl)) ?_; (with_reducible refine (targumref4_Make.calls _ _ _ _ _ _ _ _ _ _ _ A56.out).mono ?_); rintro e w99 ⟨rfl, hb⟩; refine ⟨_, rfl, ?_⟩; have n0_ := Aside0.mk (below_step bl hb); clear HB; have HB := n0_; clear n0_; (try clear hb); (try clear hb2); (try clear hk); (try clear hi)) | ((with_reducible refine gate_dst (N := 21) rfl ?_); (try (refine gate_guard (by rfl) ?_; dsimp only)); refine box_event ?hg (N := 21) ?hd (cs := #[.int .i64 0, .bool false, .string (⟨#[]⟩ : ByteArray), .string (⟨#[]⟩ : ByteArray)]) (t := 28) ?hr ?_; (case hd => rfl); (case hg => rfl); (case hr => first | (go_simp; done) | (go_simp; rfl)); intro gb393 hg w100 hbox hb; have n0_ := Aside0.mk (below_step bl hb); have n1_ := Aside0.mk (hbox); have n2_ := Aside0.mk ((by rw [hg]; exact (below_size bl) : w.heap.size ≤ gb393)); have n3_ := Aside0.mk ((by rw [hg]; exact (below_size bl) : w.heap.size ≤ gb393)); clear HB; have HB := n0_; have BK393 := n1_; have GW393 := n2_; have GE393 := n3_; clear n0_ n1_ n2_ n3_; clear hb hbox hg; have hcz101_0 : w100.cell? ⟨gb393, 0, none⟩ = some (.int .i64 0) := (blk_cell BK393.out 0).trans rfl; have hcz101_1 : w100.cell? ⟨gb393, 1, none⟩ = some (.bool false) := (blk_cell BK393.out 1).trans rfl; have hcz101_2 : w100.cell? ⟨gb393, 2, none⟩ = some (.string (⟨#[]⟩ : ByteArray)) := (blk_cell BK393.out 2).trans rfl; have hcz101_3 : w100.cell? ⟨gb393, 3, none⟩ = some (.string (⟨#[]⟩ : ByteArray)) := (blk_cell BK393.out 3).trans rfl; have hfz101_0 := blk_frozen BK393.out 0; have hfz101_1 := blk_frozen BK393.out 1; have hfz101_2 := blk_frozen BK393.out 2; have hfz101_3 := blk_frozen BK393.out 3) | ((with_reducible refine gate_callee (f := 11) rfl ?_); refine goesL_ (some 117) rfl rfl Tryd.func11 (by kernel_rfl) rfl #[.string ((⟨#[45]⟩ : ByteArray) ++ x17_31)] rfl (by (try simp only [List.map_toArray, List.map_cons, List.map_nil]); first | done | rfl | (simp only [List.length_drop, List.length_take]; rfl)) ?_; (with_reducible refine (num12_Float.calls _ _ _ _ _ _ _ _ ?side1 A59.out).mono ?_); (case side1 => exact Go.Proofs.YtbjlcipamdgnjaaDoor.Room.PowTab_below HG.out bl); rintro e w102 ⟨rfl, hb⟩; refine ⟨_, rfl, ?_⟩; have n0_ := Aside0.mk (blk_below (g := gb393) (o := .cells #[.int .i64 t388, .bool t389, .string t390, .string t391] 28 (0, 0)) bk hb); have n1_ := Aside0.mk (below_step bl hb); clear BK393; clear HB; have BK393 := n0_; have HB := n1_; clear n0_ n1_; (try clear hb); (try clear hb2); (try clear hk); (try clear hi)) | ((with_reducible refine gate_dst (N := 24) rfl ?_); (try (refine gate_guard (by rfl) ?_; dsimp only)); refine box_event ?hg (N := 24) ?hd (cs := #[.int .i64 0, .bool false, .string (⟨#[]⟩ : ByteArray), .string (⟨#[]⟩ : ByteArray)]) (t := 28) ?hr ?_; (case hd => rfl); (case hg => rfl); (case hr => first | (go_simp; done) | (go_simp; rfl)); intro gb399 hg w103 hbox hb; have n0_ := Aside0.mk (blk_below (g := gb393) (o := .cells #[.int .i64 t388, .bool t389, .string t390, .string t391] 28 (0, 0)) bk hb); have n1_ := Aside0.mk (below_step bl hb); have n2_ := Aside0.mk (hbox); have n3_ := Aside0.mk ((by rw [hg]; exact (below_size bl) : w.heap.size ≤ gb399)); have n4_ := Aside0.mk ((by rw [hg]; exact (below_size bl) : w.heap.size ≤ gb399)); have n5_ := Aside0.mk ((by rw [hg]; exact Nat.ne_of_lt (blk_lt (g := gb393) (o := .cells #[.int .i64 t388, .bool t389, .string t390, .string t391] 28 (0, 0)) bk) : gb393 ≠ gb399)); have n6_ := Aside0.mk ((by rw [hg]; exact Nat.ne_of_gt (blk_lt (g := gb393) (o := .cells #[.int .i64 t388, .bool t389, .string t390, .string t391] 28 (0, 0)) bk) : gb399 ≠ gb393)); clear BK393; clear HB; have BK393 := n0_; have HB := n1_; have BK399 := n2_; have GW399 := n3_; have GE399 := n4_; have NB393_399 := n5_; have NB399_393 := n6_; clear n0_ n1_ n2_ n3_ n4_ n5_ n6_; clear hb hbox hg; have hnb104 := NB399_393.out; have hnc104 := NB393_399.out; have hcz105_0 : w103.cell? ⟨gb399, 0, none⟩ = some (.int .i64 0) := (blk_cell BK399.out 0).trans rfl; have hcz105_1 : w103.cell? ⟨gb399, 1, none⟩ = some (.bool false) := (blk_cell BK399.out 1).trans rfl; have hcz105_2 : w103.cell? ⟨gb399, 2, none⟩ = some (.string (⟨#[]⟩ : ByteArray)) := (blk_cell BK399.out 2).trans rfl; have hcz105_3 : w103.cell? ⟨gb399, 3, none⟩ = some (.string (⟨#[]⟩ : ByteArray)) := (blk_cell BK399.out 3).trans rfl; have hfz105_0 := blk_frozen BK399.out 0; have hfz105_1 := blk_frozen BK399.out 1; have hfz105_2 := blk_frozen BK399.out 2; have hfz105_3 := blk_frozen BK399.out 3) | ((with_reducible refine gate_callee (f := 9) rfl ?_); refine goesL_ (some 124) rfl rfl Tryd.func9 (by kernel_rfl) rfl #[.string ((⟨#[45]⟩ : ByteArray) ++ x17_31)] rfl (by (try simp only [List.map_toArray, List.map_cons, List.map_nil]); first | done | rfl | (simp only [List.length_drop, List.length_take]; rfl)) ?_; (with_reducible refine (num12_Int.calls _ _ _ _ _ ?side1 A60.out).mono ?_); (case side1 => exact Go.Proofs.YtbjlcipamdgnjaaDoor.Room.PowTab_below HG.out bl); rintro e w106 ⟨rfl, hb⟩; refine ⟨_, rfl, ?_⟩; have n0_ := Aside0.mk (blk_below (g := gb393) (o := .cells #[.int .i64 t388, .bool t389, .string t390, .string t391] 28 (0, 0)) bk hb); have n1_ := Aside0.mk (blk_below (g := gb399) (o := .cells #[.int .i64 t394, .bool t395, .string t396, .string t397] 28 (0, 0)) bk hb); have n2_ := Aside0.mk (below_step bl hb); clear BK393; clear BK399; clear HB; have BK393 := n0_; have BK399 := n1_; have HB := n2_; clear n0_ n1_ n2_; (try clear hb); (try clear hb2); (try clear hk); (try clear hi)) | ((with_reducible refine gate_callee (f := 11) rfl ?_); refine goesL_ (some 132) rfl rfl Tryd.func11 (by kernel_rfl) rfl #[.string (((⟨#[45]⟩ : ByteArray) ++ x17_31) ++ (⟨#[95]⟩ : ByteArray))] rfl (by (try simp only [List.map_toArray, List.map_cons, List.map_nil]); first | done | rfl | (simp only [List.length_drop, List.length_take]; rfl)) ?_; (with_reducible refine (num12_Float.calls _ _ _ _ _ _ _ _ ?side1 A62.out).mono ?_); (case side1 => exact Go.Proofs.YtbjlcipamdgnjaaDoor.Room.PowTab_below HG.out bl); rintro e w107 ⟨rfl, hb⟩; refine ⟨_, rfl, ?_⟩; have n0_ := Aside0.mk (blk_below (g := gb393) (o := .cells #[.int .i64 t388, .bool t389, .string t390, .string t391] 28 (0, 0)) bk hb); have n1_ := Aside0.mk (blk_below (g := gb399) (o := .cells #[.int .i64 t394, .bool t395, .string t396, .string t397] 28 (0, 0)) bk hb); have n2_ := Aside0.mk (below_step bl hb); clear BK393; clear BK399; clear HB; have BK393 := n0_; have BK399 := n1_; have HB := n2_; clear n0_ n1_ n2_; (try clear hb); (try clear hb2); (try clear hk); (try clear hi)) | ((with_reducible refine gate_dst (N := 28) rfl ?_); (try (refine gate_guard (by rfl) ?_; dsimp only)); refine box_event ?hg (N := 28) ?hd (cs := #[.int .i64 0, .bool false, .string (⟨#[]⟩ : ByteArray), .string (⟨#[]⟩ : ByteArray)]) (t := 28) ?hr ?_; (case hd => rfl); (case hg => rfl); (case hr => first | (go_simp; done) | (go_simp; rfl)); intro gb407 hg w108 hbox hb; have n0_ := Aside0.mk (blk_below (g := gb393) (o := .cells #[.int .i64 t388, .bool t389, .string t390, .string t391] 28 (0, 0)) bk hb); have n1_ := Aside0.mk (blk_below (g := gb399) (o := .cells #[.int .i64 t394, .bool t395, .string t396, .string t397] 28 (0, 0)) bk hb); have n2_ := Aside0.mk (below_step bl hb); have n3_ := Aside0.mk (hbox); have n4_ := Aside0.mk ((by rw [hg]; exact (below_size bl) : w.heap.size ≤ gb407)); have n5_ := Aside0.mk ((by rw [hg]; exact (below_size bl) : w.heap.size ≤ gb407)); have n6_ := Aside0.mk ((by rw [hg]; exact Nat.ne_of_lt (blk_lt (g := gb393) (o := .cells #[.int .i64 t388, .bool t389, .string t390, .string t391] 28 (0, 0)) bk) : gb393 ≠ gb407)); have n7_ := Aside0.mk ((by rw [hg]; exact Nat.ne_of_gt (blk_lt (g := gb393) (o := .cells #[.int .i64 t388, .bool t389, .string t390, .string t391] 28 (0, 0)) bk) : gb407 ≠ gb393)); have n8_ := Aside0.mk ((by rw [hg]; exact Nat.ne_of_lt (blk_lt (g := gb399) (o := .cells #[.int .i64 t394, .bool t395, .string t396, .string t397] 28 (0, 0)) bk) : gb399 ≠ gb407)); have n9_ := Aside0.mk ((by rw [hg]; exact Nat.ne_of_gt (blk_lt (g := gb399) (o := .cells #[.int .i64 t394, .bool t395, .string t396, .string t397] 28 (0, 0)) bk) : gb407 ≠ gb399)); clear BK393; clear BK399; clear HB; have BK393 := n0_; have BK399 := n1_; have HB := n2_; have BK407 := n3_; have GW407 := n4_; have GE407 := n5_; have NB393_407 := n6_; have NB407_393 := n7_; have NB399_407 := n8_; have NB407_399 := n9_; clear n0_ n1_ n2_ n3_ n4_ n5_ n6_ n7_ n8_ n9_; clear hb hbox hg; have hnb109 := NB407_393.out; have hnc109 := NB393_407.out; have hnb110 := NB407_399.out; have hnc110 := NB399_407.out; have hcz111_0 : w108.cell? ⟨gb407, 0, none⟩ = some (.int .i64 0) := (blk_cell BK407.out 0).trans rfl; have hcz111_1 : w108.cell? ⟨gb407, 1, none⟩ = some (.bool false) := (blk_cell BK407.out 1).trans rfl; have hcz111_2 : w108.cell? ⟨gb407, 2, none⟩ = some (.string (⟨#[]⟩ : ByteArray)) := (blk_cell BK407.out 2).trans rfl; have hcz111_3 : w108.cell? ⟨gb407, 3, none⟩ = some (.string (⟨#[]⟩ : ByteArray)) := (blk_cell BK407.out 3).trans rfl; have hfz111_0 := blk_frozen BK407.out 0; have hfz111_1 := blk_frozen BK407.out 1; have hfz111_2 := blk_frozen BK407.out 2; have hfz111_3 := blk_frozen BK407.out 3; have hcz112_0 : w108.cell? ⟨gb399, 0, none⟩ = some (.int .i64 t394) := (blk_cell BK399.out 0).trans rfl; have hcz112_1 : w108.cell? ⟨gb399, 1, none⟩ = some (.bool t395) := (blk_cell BK399.out 1).trans rfl; have hcz112_2 : w108.cell? ⟨gb399, 2, none⟩ = some (.string t396) := (blk_cell BK399.out 2).trans rfl; have hcz112_3 : w108.cell? ⟨gb399, 3, none⟩ = some (.string t397) := (blk_cell BK399.out 3).trans rfl; have hfz112_0 := blk_frozen BK399.out 0; have hfz112_1 := blk_frozen BK399.out 1; have hfz112_2 := blk_frozen BK399.out 2; have hfz112_3 := blk_frozen BK399.out 3; have hcz113_0 : w108.cell? ⟨gb393, 0, none⟩ = some (.int .i64 t388) := (blk_cell BK393.out 0).trans rfl; have hcz113_1 : w108.cell? ⟨gb393, 1, none⟩ = some (.bool t389) := (blk_cell BK393.out 1).trans rfl; have hcz113_2 : w108.cell? ⟨gb393, 2, none⟩ = some (.string t390) := (blk_cell BK393.out 2).trans rfl; have hcz113_3 : w108.cell? ⟨gb393, 3, none⟩ = some (.string t391) := (blk_cell BK393.out 3).trans rfl; have hfz113_0 := blk_frozen BK393.out 0; have hfz113_1 := blk_frozen BK393.out 1; have hfz113_2 := blk_frozen BK393.out 2; have hfz113_3 := blk_frozen BK393.out 3))
              go_ret
              exact ⟨by first | rfl | (simp [errW_none, errW_some] <;> rfl) | (simp [*, errW_none, errW_some] <;> rfl), bl⟩
           ·rw [if_neg c61] at H
            exact absurd H (by simp)
          ·rw [if_neg c58] at H
           exact absurd H (by simp)
         ·replace c57 := Bool.eq_false_iff.mpr c57
          subst c57
          have H1 : (if 0 + x17_31.size ≤ 9223372036854775807 then ((num12_Float.f kj31 ((⟨#[]⟩ : ByteArray) ++ x17_31)).bind fun bt408 => ((num12_Int.f kj31 ((⟨#[]⟩ : ByteArray) ++ x17_31)).bind fun bt414 => (if ((⟨#[]⟩ : ByteArray) ++ x17_31).size + 1 ≤ 9223372036854775807 then ((num12_Float.f kj31 (((⟨#[]⟩ : ByteArray) ++ x17_31) ++ (⟨#[95]⟩ : ByteArray))).bind fun bt416 => (if bt408.2.2.2.2 = true then (if (bt408.1 == t388 && (bt408.2.1 == t389 && (bt408.2.2.1.toList == t390.toList && (bt408.2.2.2.1.toList == t391.toList)))) = true then (if bt414.2 = true then (some false) else (some (!bt416.2.2.2.2))) else (some false)) else (some false))) else (none)))) else (none)) = some r := by rw [if_neg (show ¬ (false = true) by decide)] at H; exact H
          clear H
          have H := H1
          clear H1
          by_cases c128 : 0 + x17_31.size ≤ 9223372036854775807
          ·rw [if_pos c128] at H
           have c128b0 := eq_true c128
           have c128b1 : decide (0 + x17_31.size ≤ 9223372036854775807) = true := decide_eq_true c128
           try have c128b2 : (9223372036854775807 < 0 + x17_31.size) = False := eq_false (Nat.not_lt.2 c128)
           replace H := Option.bind_eq_some_iff.mp H
           obtain ⟨⟨t408, t409, t410, t411, t412⟩, A1290, H⟩ := H
           replace H : ((num12_Int.f kj31 ((⟨#[]⟩ : ByteArray) ++ x17_31)).bind fun bt414 => (if ((⟨#[]⟩ : ByteArray) ++ x17_31).size + 1 ≤ 9223372036854775807 then ((num12_Float.f kj31 (((⟨#[]⟩ : ByteArray) ++ x17_31) ++ (⟨#[95]⟩ : ByteArray))).bind fun bt416 => (if t412 = true then (if (t408 == t388 && (t409 == t389 && (t410.toList == t390.toList && (t411.toList == t391.toList)))) = true then (if bt414.2 = true then (some false) else (some (!bt416.2.2.2.2))) else (some false)) else (some false))) else (none))) = some r := H
           have A129 := Aside0.mk A1290
           clear A1290
           replace H := Option.bind_eq_some_iff.mp H
           obtain ⟨⟨t414, t415⟩, A1300, H⟩ := H
           replace H : (if ((⟨#[]⟩ : ByteArray) ++ x17_31).size + 1 ≤ 9223372036854775807 then ((num12_Float.f kj31 (((⟨#[]⟩ : ByteArray) ++ x17_31) ++ (⟨#[95]⟩ : ByteArray))).bind fun bt416 => (if t412 = true then (if (t408 == t388 && (t409 == t389 && (t410.toList == t390.toList && (t411.toList == t391.toList)))) = true then (if t415 = true then (some false) else (some (!bt416.2.2.2.2))) else (some false)) else (some false))) else (none)) = some r := H
           have A130 := Aside0.mk A1300
           clear A1300
           by_cases c131 : ((⟨#[]⟩ : ByteArray) ++ x17_31).size + 1 ≤ 9223372036854775807
           ·rw [if_pos c131] at H
            have c131b0 := eq_true c131
            have c131b1 : decide (((⟨#[]⟩ : ByteArray) ++ x17_31).size + 1 ≤ 9223372036854775807) = true := decide_eq_true c131
            try have c131b2 : (9223372036854775807 < ((⟨#[]⟩ : ByteArray) ++ x17_31).size + 1) = False := eq_false (Nat.not_lt.2 c131)
            try have c131b3 : (9223372036854775807 < 0 + x17_31.size + 1) = False := eq_false (Nat.not_lt.2 (by have z_ := c131; simp only [ByteArray.size_append, ByteArray.size_extract, Nat.min_self] at z_; exact z_))
            try have c131b5 : (9223372036854775807 < x17_31.size + 1) = False := eq_false (Nat.not_lt.2 (by have z_ := c131; simp only [ByteArray.size_append, ByteArray.size_extract, Nat.min_self] at z_; have e_ : (⟨#[]⟩ : ByteArray).size = 0 := rfl; omega))
            replace H := Option.bind_eq_some_iff.mp H
            obtain ⟨⟨t416, t417, t418, t419, t420⟩, A1320, H⟩ := H
            replace H : (if t412 = true then (if (t408 == t388 && (t409 == t389 && (t410.toList == t390.toList && (t411.toList == t391.toList)))) = true then (if t415 = true then (some false) else (some (!t420))) else (some false)) else (some false)) = some r := H
            have A132 := Aside0.mk A1320
            clear A1320
            refine Classical.byCases (p := (t412 = true)) (fun c133 => ?x22) (fun c133 => ?y22)
            case' x22 =>
             subst c133
             have H1 : (if (t408 == t388 && (t409 == t389 && (t410.toList == t390.toList && (t411.toList == t391.toList)))) = true then (if t415 = true then (some false) else (some (!t420))) else (some false)) = some r := by rw [if_pos rfl] at H; exact H
             clear H
             have H := H1
             clear H1
             refine Classical.byCases (p := ((t408 == t388 && (t409 == t389 && (t410.toList == t390.toList && (t411.toList == t391.toList)))) = true)) (fun c134 => ?x23) (fun c134 => ?y23)
             case' x23 =>
              rw [if_pos c134] at H
              have c134b0 : (t408 == t388 && (t409 == t389 && (t410.toList == t390.toList && (t411.toList == t391.toList)))) = true := c134
              (try (have c134b1 : decide (t408 = t388 && (t409 == t389 && (t410.toList == t390.toList && (t411.toList == t391.toList)))) = true := by simpa using c134))
              (try (have c134b2 : (t408 == t388 && (t409 == t389 && (t410.toList == t390.toList && (t411.toList == t391.toList)))) = true := by simpa using c134))
              clear c134
              refine Classical.byCases (p := (t415 = true)) (fun c135 => ?x24) (fun c135 => ?y24)
              case' x24 =>
               subst c135
               have H1 : (some false) = some r := by rw [if_pos rfl] at H; exact H
               clear H
               have H := H1
               clear H1
               obtain rfl := Option.some.inj H
               skip
              case' y24 =>
               replace c135 := Bool.eq_false_iff.mpr c135
               subst c135
               have H1 : (some (!t420)) = some r := by rw [if_neg (show ¬ (false = true) by decide)] at H; exact H
               clear H
               have H := H1
               clear H1
               obtain rfl := Option.some.inj H
               skip
             case' y23 =>
              rw [if_neg c134] at H
              have c134b0 : (t408 == t388 && (t409 == t389 && (t410.toList == t390.toList && (t411.toList == t391.toList)))) = false := by simpa using c134
              (try (have c134b1 : decide (t408 = t388 && (t409 == t389 && (t410.toList == t390.toList && (t411.toList == t391.toList)))) = false := by simpa using c134))
              (try (have c134b2 : (t408 == t388 && (t409 == t389 && (t410.toList == t390.toList && (t411.toList == t391.toList)))) = false := by simpa using c134))
              (try (have c134b3 : ¬ (t408 = t388 && (t409 == t389 && (t410.toList == t390.toList && (t411.toList == t391.toList)))) := by simpa using c134))
              clear c134
              obtain rfl := Option.some.inj H
              skip
            case' y22 =>
             replace c133 := Bool.eq_false_iff.mpr c133
             subst c133
             have H1 : (some false) = some r := by rw [if_neg (show ¬ (false = true) by decide)] at H; exact H
             clear H
             have H := H1
             clear H1
             obtain rfl := Option.some.inj H
             skip
            case x24 | y24 | y23 | y22 =>
             as_aux_lemma =>
              go_wp2_with (first | ((with_reducible refine gate_callee (f := 14) rfl ?_); refine goesL_ (some 106) rfl rfl Tryd.func14 (by kernel_rfl) rfl #[.string a0] rfl (by (try simp only [List.map_toArray, List.map_cons, List.map_nil]); first | done | rfl | (simp only [List.length_drop, List.length_take]; rfl)) ?_; (with_reducible refine (targumlaw8_digits.calls _ _ _ _ A55.out).mono ?_); rintro e w136 ⟨rfl, hb⟩; refine ⟨_, rfl, ?_⟩; have n0_ := Aside0.mk (below_step bl hb); clear HB; have HB := n0_; clear n0_; (try clear hb); (try clear hb2); (try clear hk); (try clear hi)) | ((with_reducible refine gate_callee (f := 13) rfl ?_); refine goesL_ (some 109) rfl rfl Tryd.func13 (by kernel_rfl) rfl #[.bool false, .string t387, .string x18_22, .string x19_31] rfl (by (try simp only [List.map_toArray, List.map_cons, List.map_nil]); first | done | rfl | (simp only [List.length_drop, List.length_take]; rfl)) ?_; (with_reducible refine (targumref4_Make.calls _ _ _ _ _ _ _ _ _ _ _ A56.out).mono ?_); rintro e w137 ⟨rfl, hb⟩; refine ⟨_, rfl, ?_⟩; have n0_ := Aside0.mk (below_step bl hb); clear HB; have HB := n0_; clear n0_; (try clear hb); (try clear hb2); (try clear hk); (try clear hi)) | ((with_reducible refine gate_dst (N := 21) rfl ?_); (try (refine gate_guard (by rfl) ?_; dsimp only)); refine box_event ?hg (N := 21) ?hd (cs := #[.int .i64 0, .bool false, .string (⟨#[]⟩ : ByteArray), .string (⟨#[]⟩ : ByteArray)]) (t := 28) ?hr ?_; (case hd => rfl); (case hg => rfl); (case hr => first | (go_simp; done) | (go_simp; rfl)); intro gb393 hg w138 hbox hb; have n0_ := Aside0.mk (below_step bl hb); have n1_ := Aside0.mk (hbox); have n2_ := Aside0.mk ((by rw [hg]; exact (below_size bl) : w.heap.size ≤ gb393)); have n3_ := Aside0.mk ((by rw [hg]; exact (below_size bl) : w.heap.size ≤ gb393)); clear HB; have HB := n0_; have BK393 := n1_; have GW393 := n2_; have GE393 := n3_; clear n0_ n1_ n2_ n3_; clear hb hbox hg; have hcz139_0 : w138.cell? ⟨gb393, 0, none⟩ = some (.int .i64 0) := (blk_cell BK393.out 0).trans rfl; have hcz139_1 : w138.cell? ⟨gb393, 1, none⟩ = some (.bool false) := (blk_cell BK393.out 1).trans rfl; have hcz139_2 : w138.cell? ⟨gb393, 2, none⟩ = some (.string (⟨#[]⟩ : ByteArray)) := (blk_cell BK393.out 2).trans rfl; have hcz139_3 : w138.cell? ⟨gb393, 3, none⟩ = some (.string (⟨#[]⟩ : ByteArray)) := (blk_cell BK393.out 3).trans rfl; have hfz139_0 := blk_frozen BK393.out 0; have hfz139_1 := blk_frozen BK393.out 1; have hfz139_2 := blk_frozen BK393.out 2; have hfz139_3 := blk_frozen BK393.out 3) | ((with_reducible refine gate_callee (f := 11) rfl ?_); refine goesL_ (some 117) rfl rfl Tryd.func11 (by kernel_rfl) rfl #[.string ((⟨#[]⟩ : ByteArray) ++ x17_31)] rfl (by (try simp only [List.map_toArray, List.map_cons, List.map_nil]); first | done | rfl | (simp only [List.length_drop, List.length_take]; rfl)) ?_; (with_reducible refine (num12_Float.calls _ _ _ _ _ _ _ _ ?side1 A129.out).mono ?_); (case side1 => exact Go.Proofs.YtbjlcipamdgnjaaDoor.Room.PowTab_below HG.out bl); rintro e w140 ⟨rfl, hb⟩; refine ⟨_, rfl, ?_⟩; have n0_ := Aside0.mk (blk_below (g := gb393) (o := .cells #[.int .i64 t388, .bool t389, .string t390, .string t391] 28 (0, 0)) bk hb); have n1_ := Aside0.mk (below_step bl hb); clear BK393; clear HB; have BK393 := n0_; have HB := n1_; clear n0_ n1_; (try clear hb); (try clear hb2); (try clear hk); (try clear hi)) | ((with_reducible refine gate_dst (N := 24) rfl ?_); (try (refine gate_guard (by rfl) ?_; dsimp only)); refine box_event ?hg (N := 24) ?hd (cs := #[.int .i64 0, .bool false, .string (⟨#[]⟩ : ByteArray), .string (⟨#[]⟩ : ByteArray)]) (t := 28) ?hr ?_; (case hd => rfl); (case hg => rfl); (case hr => first | (go_simp; done) | (go_simp; rfl)); intro gb413 hg w141 hbox hb; have n0_ := Aside0.mk (blk_below (g := gb393) (o := .cells #[.int .i64 t388, .bool t389, .string t390, .string t391] 28 (0, 0)) bk hb); have n1_ := Aside0.mk (below_step bl hb); have n2_ := Aside0.mk (hbox); have n3_ := Aside0.mk ((by rw [hg]; exact (below_size bl) : w.heap.size ≤ gb413)); have n4_ := Aside0.mk ((by rw [hg]; exact (below_size bl) : w.heap.size ≤ gb413)); have n5_ := Aside0.mk ((by rw [hg]; exact Nat.ne_of_lt (blk_lt (g := gb393) (o := .cells #[.int .i64 t388, .bool t389, .string t390, .string t391] 28 (0, 0)) bk) : gb393 ≠ gb413)); have n6_ := Aside0.mk ((by rw [hg]; exact Nat.ne_of_gt (blk_lt (g := gb393) (o := .cells #[.int .i64 t388, .bool t389, .string t390, .string t391] 28 (0, 0)) bk) : gb413 ≠ gb393)); clear BK393; clear HB; have BK393 := n0_; have HB := n1_; have BK413 := n2_; have GW413 := n3_; have GE413 := n4_; have NB393_413 := n5_; have NB413_393 := n6_; clear n0_ n1_ n2_ n3_ n4_ n5_ n6_; clear hb hbox hg; have hnb142 := NB413_393.out; have hnc142 := NB393_413.out; have hcz143_0 : w141.cell? ⟨gb413, 0, none⟩ = some (.int .i64 0) := (blk_cell BK413.out 0).trans rfl; have hcz143_1 : w141.cell? ⟨gb413, 1, none⟩ = some (.bool false) := (blk_cell BK413.out 1).trans rfl; have hcz143_2 : w141.cell? ⟨gb413, 2, none⟩ = some (.string (⟨#[]⟩ : ByteArray)) := (blk_cell BK413.out 2).trans rfl; have hcz143_3 : w141.cell? ⟨gb413, 3, none⟩ = some (.string (⟨#[]⟩ : ByteArray)) := (blk_cell BK413.out 3).trans rfl; have hfz143_0 := blk_frozen BK413.out 0; have hfz143_1 := blk_frozen BK413.out 1; have hfz143_2 := blk_frozen BK413.out 2; have hfz143_3 := blk_frozen BK413.out 3) | ((with_reducible refine gate_callee (f := 9) rfl ?_); refine goesL_ (some 124) rfl rfl Tryd.func9 (by kernel_rfl) rfl #[.string ((⟨#[]⟩ : ByteArray) ++ x17_31)] rfl (by (try simp only [List.map_toArray, List.map_cons, List.map_nil]); first | done | rfl | (simp only [List.length_drop, List.length_take]; rfl)) ?_; (with_reducible refine (num12_Int.calls _ _ _ _ _ ?side1 A130.out).mono ?_); (case side1 => exact Go.Proofs.YtbjlcipamdgnjaaDoor.Room.PowTab_below HG.out bl); rintro e w144 ⟨rfl, hb⟩; refine ⟨_, rfl, ?_⟩; have n0_ := Aside0.mk (blk_below (g := gb393) (o := .cells #[.int .i64 t388, .bool t389, .string t390, .string t391] 28 (0, 0)) bk hb); have n1_ := Aside0.mk (blk_below (g := gb413) (o := .cells #[.int .i64 t408, .bool t409, .string t410, .string t411] 28 (0, 0)) bk hb); have n2_ := Aside0.mk (below_step bl hb); clear BK393; clear BK413; clear HB; have BK393 := n0_; have BK413 := n1_; have HB := n2_; clear n0_ n1_ n2_; (try clear hb); (try clear hb2); (try clear hk); (try clear hi)) | ((with_reducible refine gate_callee (f := 11) rfl ?_); refine goesL_ (some 132) rfl rfl Tryd.func11 (by kernel_rfl) rfl #[.string (((⟨#[]⟩ : ByteArray) ++ x17_31) ++ (⟨#[95]⟩ : ByteArray))] rfl (by (try simp only [List.map_toArray, List.map_cons, List.map_nil]); first | done | rfl | (simp only [List.length_drop, List.length_take]; rfl)) ?_; (with_reducible refine (num12_Float.calls _ _ _ _ _ _ _ _ ?side1 A132.out).mono ?_); (case side1 => exact Go.Proofs.YtbjlcipamdgnjaaDoor.Room.PowTab_below HG.out bl); rintro e w145 ⟨rfl, hb⟩; refine ⟨_, rfl, ?_⟩; have n0_ := Aside0.mk (blk_below (g := gb393) (o := .cells #[.int .i64 t388, .bool t389, .string t390, .string t391] 28 (0, 0)) bk hb); have n1_ := Aside0.mk (blk_below (g := gb413) (o := .cells #[.int .i64 t408, .bool t409, .string t410, .string t411] 28 (0, 0)) bk hb); have n2_ := Aside0.mk (below_step bl hb); clear BK393; clear BK413; clear HB; have BK393 := n0_; have BK413 := n1_; have HB := n2_; clear n0_ n1_ n2_; (try clear hb); (try clear hb2); (try clear hk); (try clear hi)) | ((with_reducible refine gate_dst (N := 28) rfl ?_); (try (refine gate_guard (by rfl) ?_; dsimp only)); refine box_event ?hg (N := 28) ?hd (cs := #[.int .i64 0, .bool false, .string (⟨#[]⟩ : ByteArray), .string (⟨#[]⟩ : ByteArray)]) (t := 28) ?hr ?_; (case hd => rfl); (case hg => rfl); (case hr => first | (go_simp; done) | (go_simp; rfl)); intro gb421 hg w146 hbox hb; have n0_ := Aside0.mk (blk_below (g := gb393) (o := .cells #[.int .i64 t388, .bool t389, .string t390, .string t391] 28 (0, 0)) bk hb); have n1_ := Aside0.mk (blk_below (g := gb413) (o := .cells #[.int .i64 t408, .bool t409, .string t410, .string t411] 28 (0, 0)) bk hb); have n2_ := Aside0.mk (below_step bl hb); have n3_ := Aside0.mk (hbox); have n4_ := Aside0.mk ((by rw [hg]; exact (below_size bl) : w.heap.size ≤ gb421)); have n5_ := Aside0.mk ((by rw [hg]; exact (below_size bl) : w.heap.size ≤ gb421)); have n6_ := Aside0.mk ((by rw [hg]; exact Nat.ne_of_lt (blk_lt (g := gb393) (o := .cells #[.int .i64 t388, .bool t389, .string t390, .string t391] 28 (0, 0)) bk) : gb393 ≠ gb421)); have n7_ := Aside0.mk ((by rw [hg]; exact Nat.ne_of_gt (blk_lt (g := gb393) (o := .cells #[.int .i64 t388, .bool t389, .string t390, .string t391] 28 (0, 0)) bk) : gb421 ≠ gb393)); have n8_ := Aside0.mk ((by rw [hg]; exact Nat.ne_of_lt (blk_lt (g := gb413) (o := .cells #[.int .i64 t408, .bool t409, .string t410, .string t411] 28 (0, 0)) bk) : gb413 ≠ gb421)); have n9_ := Aside0.mk ((by rw [hg]; exact Nat.ne_of_gt (blk_lt (g := gb413) (o := .cells #[.int .i64 t408, .bool t409, .string t410, .string t411] 28 (0, 0)) bk) : gb421 ≠ gb413)); clear BK393; clear BK413; clear HB; have BK393 := n0_; have BK413 := n1_; have HB := n2_; have BK421 := n3_; have GW421 := n4_; have GE421 := n5_; have NB393_421 := n6_; have NB421_393 := n7_; have NB413_421 := n8_; have NB421_413 := n9_; clear n0_ n1_ n2_ n3_ n4_ n5_ n6_ n7_ n8_ n9_; clear hb hbox hg; have hnb147 := NB421_393.out; have hnc147 := NB393_421.out; have hnb148 := NB421_413.out; have hnc148 := NB413_421.out; have hcz149_0 : w146.cell? ⟨gb421, 0, none⟩ = some (.int .i64 0) := (blk_cell BK421.out 0).trans rfl; have hcz149_1 : w146.cell? ⟨gb421, 1, none⟩ = some (.bool false) := (blk_cell BK421.out 1).trans rfl; have hcz149_2 : w146.cell? ⟨gb421, 2, none⟩ = some (.string (⟨#[]⟩ : ByteArray)) := (blk_cell BK421.out 2).trans rfl; have hcz149_3 : w146.cell? ⟨gb421, 3, none⟩ = some (.string (⟨#[]⟩ : ByteArray)) := (blk_cell BK421.out 3).trans rfl; have hfz149_0 := blk_frozen BK421.out 0; have hfz149_1 := blk_frozen BK421.out 1; have hfz149_2 := blk_frozen BK421.out 2; have hfz149_3 := blk_frozen BK421.out 3; have hcz150_0 : w146.cell? ⟨gb413, 0, none⟩ = some (.int .i64 t408) := (blk_cell BK413.out 0).trans rfl; have hcz150_1 : w146.cell? ⟨gb413, 1, none⟩ = some (.bool t409) := (blk_cell BK413.out 1).trans rfl; have hcz150_2 : w146.cell? ⟨gb413, 2, none⟩ = some (.string t410) := (blk_cell BK413.out 2).trans rfl; have hcz150_3 : w146.cell? ⟨gb413, 3, none⟩ = some (.string t411) := (blk_cell BK413.out 3).trans rfl; have hfz150_0 := blk_frozen BK413.out 0; have hfz150_1 := blk_frozen BK413.out 1; have hfz150_2 := blk_frozen BK413.out 2; have hfz150_3 := blk_frozen BK413.out 3; have hcz151_0 : w146.cell? ⟨gb393, 0, none⟩ = some (.int .i64 t388) := (blk_cell BK393.out 0).trans rfl; have hcz151_1 : w146.cell? ⟨gb393, 1, none⟩ = some (.bool t389) := (blk_cell BK393.out 1).trans rfl; have hcz151_2 : w146.cell? ⟨gb393, 2, none⟩ = some (.string t390) := (blk_cell BK393.out 2).trans rfl; have hcz151_3 : w146.cell? ⟨gb393, 3, none⟩ = some (.string t391) := (blk_cell BK393.out 3).trans rfl; have hfz151_0 := blk_frozen BK393.out 0; have hfz151_1 := blk_frozen BK393.out 1; have hfz151_2 := blk_frozen BK393.out 2; have hfz151_3 := blk_frozen BK393.out 3))
              go_ret
              exact ⟨by first | rfl | (simp [errW_none, errW_some] <;> rfl) | (simp [*, errW_none, errW_some] <;> rfl), bl⟩
           ·rw [if_neg c131] at H
            exact absurd H (by simp)
          ·rw [if_neg c128] at H
           exact absurd H (by simp)
 ·replace c10 := Bool.eq_false_iff.mpr c10
  subst c10
  have H1 : (some false) = some r := by rw [if_neg (show ¬ (false = true) by decide)] at H; exact H
  clear H
  have H := H1
  clear H1
  obtain rfl := Option.some.inj H
  go_enter Tryd.func6, Tryd.ntmps6
  go_wp2_with (first | ((with_reducible refine gate_callee (f := 8) rfl ?_); refine goesL_ (some 30) rfl rfl Tryd.func8 (by kernel_rfl) rfl #[] rfl (by (try simp only [List.map_toArray, List.map_cons, List.map_nil]); first | done | rfl | (simp only [List.length_drop, List.length_take]; rfl)) ?_; (with_reducible refine (targumlaw8_known.calls k  false _ ?side1 A9.out).mono ?_); (case side1 => exact Go.Proofs.YtbjlcipamdgnjaaDoor.Room.PowTab_below HG.out bl); rintro e w198 ⟨rfl, hb⟩; refine ⟨_, rfl, ?_⟩; have n0_ := Aside0.mk (below_step bl hb); clear HB; have HB := n0_; clear n0_; (try clear hb); (try clear hb2); (try clear hk); (try clear hi)))
  go_ret
  exact ⟨by first | rfl | (simp [errW_none, errW_some] <;> rfl) | (simp [*, errW_none, errW_some] <;> rfl), bl⟩

/-- THE ONE PURE STATEMENT of targumlaw8_Num12Parts: yours. -/
def targumlaw8_Num12Parts.Pure : Prop := ∀ (a0 : ByteArray) (a1 : ByteArray) (a2 : ByteArray) (a3 : Bool) (a4 : Bool) (a5 : Bool) (a6 : Bool) (a7 : Bool), a0.size ≤ 140737488351232 → a1.size ≤ 140737488351232 → a2.size ≤ 140737488351232 → ∃ k, targumlaw8_Num12Parts.f k a0 a1 a2 a3 a4 a5 a6 a7 = some true
theorem targumlaw8_Num12Parts.walk (P : targumlaw8_Num12Parts.Pure) (a0 : ByteArray) (a1 : ByteArray) (a2 : ByteArray) (a3 : Bool) (a4 : Bool) (a5 : Bool) (a6 : Bool) (a7 : Bool) (w : World) (w0 : a0.size ≤ 140737488351232) (w1 : a1.size ≤ 140737488351232) (w2 : a2.size ≤ 140737488351232) (hG : Go.Proofs.YtbjlcipamdgnjaaDoor.Room.PowTab w) :
  Calls Tryd.prog 6 #[.string a0, .string a1, .string a2, .bool a3, .bool a4, .bool a5, .bool a6, .bool a7] w fun e w' => e = .returned (.bool true) ∧ Below w.heap.size w w' := by
 obtain ⟨k, h⟩ := P a0 a1 a2 a3 a4 a5 a6 a7 w0 w1 w2
 refine (targumlaw8_Num12Parts.calls k a0 a1 a2 a3 a4 a5 a6 a7 true w hG h).mono ?_
 rintro e w' ⟨rfl, hd⟩
 exact ⟨rfl, hd⟩

end Go.Proofs.YtbjlcipamdgnjaaDoor.PN
