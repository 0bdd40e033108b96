/- Written by this session's own program (xprint, made over the kit's print): Lean functions with the same answers as the Go functions, and the proofs of that. Not trusted: Lean checks it. -/
import Derived.Test.YtkphlddgfmgogaaDoorPBx0
import Derived.Test.YtkphlddgfmgogaaDoorPBx2
import Derived.Test.YtkphlddgfmgogaaDoorPBx3
import Derived.Test.YtkphlddgfmgogaaDoorPBx4
import Derived.Test.YtkphlddgfmgogaaDoorPBx6
import Derived.Test.YtkphlddgfmgogaaDoorPBx7
import Derived.Test.YtkphlddgfmgogaaDoorPBx10
import Derived.Test.YtkphlddgfmgogaaDoorPBx11
import Derived.Test.YtkphlddgfmgogaaDoorXW
namespace Go.Proofs.YtkphlddgfmgogaaDoor.PB
open Go.Proofs.YtkphlddgfmgogaaDoor.XW Go.RowKit Go.Proofs.YtkphlddgfmgogaaDoorW.PrintWords Go.Proofs.YtkphlddgfmgogaaDoorW.PrintLast Go.Proofs.YtkphlddgfmgogaaDoorW.PrintMore
attribute [local go_sem] max2_int min2_int max_two min_two max_three min_three max_four min_four   -- for this text's walks alone
set_option linter.unusedVariables false
set_option linter.unusedSimpArgs false

/-! ### targumlaw2_BrkTells: function 7 -/
mutual
def targumlaw2_BrkTells.j0 : Nat → ByteArray → Int → Bool → Option (Bool)
 | 0, _, _, _ => none
 | k + 1, x0, x1, x71 => if x71 = true then (some false) else ((some (([11, 12, x1] : List Int) : List Int)).bind fun y268 => (targumlaw2_BrkTells.l0 k x0 y268 (y268.length : Int) 0))
def targumlaw2_BrkTells.l0 : Nat → ByteArray → List Int → Int → Int → Option (Bool)
 | 0, _, _, _, _ => none
 | k + 1, x0, x73, x74, x75 => if x75 < x74 then (if 0 ≤ x75 then (if x75 < (x73.length : Int) then ((brk_Lines.f k (rd x73 x75) x0).bind fun t272 => ((targumref1_Lines.f k (rd x73 x75) x0).bind fun t275 => ((targumhelp_Lines.f k t272 t275).bind fun t278 => (if t278 = true then (targumlaw2_BrkTells.l1 k x0 x73 x74 x75 t272 (t272.length : Int) 0) else (some false))))) else (none)) else (none)) else (targumlaw2_BrkTells.l2 k x0 0)
def targumlaw2_BrkTells.l1 : Nat → ByteArray → List Int → Int → Int → List (S27) → Int → Int → Option (Bool)
 | 0, _, _, _, _, _, _, _ => none
 | k + 1, x0, x73, x74, x75, x88, x89, x90 => if x90 < x89 then (if 0 ≤ x90 then (if x90 < (x88.length : Int) then ((brk_Indent.f x0 ((rd_T27 x88 x90).f0) ((rd_T27 x88 x90).f1) ((rd_T27 x88 x90).f2)).bind fun t281 => ((targumref1_Indent.f k x0 ((rd_T27 x88 x90).f0) ((rd_T27 x88 x90).f1) ((rd_T27 x88 x90).f2)).bind fun t282 => (if t281 = t282 then ((brk_Blank.f x0 ((rd_T27 x88 x90).f0) ((rd_T27 x88 x90).f1) ((rd_T27 x88 x90).f2)).bind fun t283 => ((targumref1_Blank.f k x0 ((rd_T27 x88 x90).f0) ((rd_T27 x88 x90).f1) ((rd_T27 x88 x90).f2)).bind fun t284 => (if (t283 != t284) = true then (some false) else ((brk_Marker.f k x0 ((rd_T27 x88 x90).f0) ((rd_T27 x88 x90).f1) ((rd_T27 x88 x90).f2)).bind fun t285 => ((targumref1_Marker.f k x0 ((rd_T27 x88 x90).f0) ((rd_T27 x88 x90).f1) ((rd_T27 x88 x90).f2)).bind fun t286 => (if t285 = t286 then (targumlaw2_BrkTells.l1 k x0 x73 x74 x75 x88 x89 (wrap64 (x90 + 1))) else (some false))))))) else (some false)))) else (none)) else (none)) else (targumlaw2_BrkTells.l0 k x0 x73 x74 (wrap64 (x75 + 1)))
def targumlaw2_BrkTells.l2 : Nat → ByteArray → Int → Option (Bool)
 | 0, _, _ => none
 | k + 1, x0, x14 => if x14 ≤ (x0.size : Int) then ((brk_Break.f k 11 x0 x14).bind fun t287 => ((targumref1_Break.f k 11 x0 x14).bind fun t288 => (if t287 = t288 then ((brk_May.f k x0 x14).bind fun t289 => ((targumref1_May.f k x0 x14).bind fun t290 => (if t289 = t290 then (targumlaw2_BrkTells.l2 k x0 (wrap64 (x14 + 1))) else (some false)))) else (some false)))) else (some true)
end
def targumlaw2_BrkTells.f (k : Nat) (a0 : ByteArray) (a1 : Int) (a2 : Int) (a3_0 : Int) (a3_1 : Int) (a3_2 : Int) : Option (Bool) := (targumlaw2_known.f k).bind fun t255 => (if t255 = true then (if (a0.size : Int) > 300 then (some true) else ((brk_Break.f k a1 a0 a2).bind fun t256 => ((targumref1_Break.f k a1 a0 a2).bind fun t257 => (if t256 = t257 then ((brk_May.f k a0 a2).bind fun t258 => ((targumref1_May.f k a0 a2).bind fun t259 => (if t258 = t259 then ((brk_Check.f k a0).bind fun t260 => ((targumref1_Check.f k a0).bind fun t261 => (if t260 = t261 then ((brk_Indent.f a0 a3_0 a3_1 a3_2).bind fun t262 => ((targumref1_Indent.f k a0 a3_0 a3_1 a3_2).bind fun t263 => (if t262 = t263 then ((brk_Blank.f a0 a3_0 a3_1 a3_2).bind fun t264 => ((targumref1_Blank.f k a0 a3_0 a3_1 a3_2).bind fun t265 => (if (t264 != t265) = true then (targumlaw2_BrkTells.j0 k a0 a1 true) else ((brk_Marker.f k a0 a3_0 a3_1 a3_2).bind fun t266 => ((targumref1_Marker.f k a0 a3_0 a3_1 a3_2).bind fun t267 => (targumlaw2_BrkTells.j0 k a0 a1 (t266 != t267))))))) else (targumlaw2_BrkTells.j0 k a0 a1 true)))) else (targumlaw2_BrkTells.j0 k a0 a1 true)))) else (targumlaw2_BrkTells.j0 k a0 a1 true)))) else (targumlaw2_BrkTells.j0 k a0 a1 true))))) else (some false))
theorem targumlaw2_BrkTells.mono_l : ∀ k, (∀ y0 y1 y2, LeO (targumlaw2_BrkTells.j0 k y0 y1 y2) (targumlaw2_BrkTells.j0 (k + 1) y0 y1 y2)) ∧ (∀ y0 y1 y2 y3, LeO (targumlaw2_BrkTells.l0 k y0 y1 y2 y3) (targumlaw2_BrkTells.l0 (k + 1) y0 y1 y2 y3)) ∧ (∀ y0 y1 y2 y3 y4 y5 y6, LeO (targumlaw2_BrkTells.l1 k y0 y1 y2 y3 y4 y5 y6) (targumlaw2_BrkTells.l1 (k + 1) y0 y1 y2 y3 y4 y5 y6)) ∧ (∀ y0 y1, LeO (targumlaw2_BrkTells.l2 k y0 y1) (targumlaw2_BrkTells.l2 (k + 1) y0 y1))
 | 0 => ⟨fun _ _ _ r h => by simp [targumlaw2_BrkTells.j0] at h, fun _ _ _ _ r h => by simp [targumlaw2_BrkTells.l0] at h, fun _ _ _ _ _ _ _ r h => by simp [targumlaw2_BrkTells.l1] at h, fun _ _ r h => by simp [targumlaw2_BrkTells.l2] at h⟩
 | k + 1 => by
  obtain ⟨ih0, ih1, ih2, ih3⟩ := targumlaw2_BrkTells.mono_l k
  refine ⟨?_, ?_, ?_, ?_⟩
  ·intro y0 y1 y2
   unfold targumlaw2_BrkTells.j0
   repeat' first
   | (with_reducible exact ih0 _ _ _)
   | (with_reducible exact ih1 _ _ _ _)
   | (with_reducible exact ih2 _ _ _ _ _ _ _)
   | (with_reducible exact ih3 _ _)
   | (with_reducible exact brk_Break.mono _ _ _ _)
   | (with_reducible exact brk_Check.mono _ _)
   | (with_reducible exact brk_Lines.mono _ _ _)
   | (with_reducible exact brk_Marker.mono _ _ _ _ _)
   | (with_reducible exact brk_May.mono _ _ _)
   | (with_reducible exact targumhelp_Lines.mono _ _ _)
   | (with_reducible exact targumlaw2_known.mono _)
   | (with_reducible exact targumref1_Blank.mono _ _ _ _ _)
   | (with_reducible exact targumref1_Break.mono _ _ _ _)
   | (with_reducible exact targumref1_Check.mono _ _)
   | (with_reducible exact targumref1_Indent.mono _ _ _ _ _)
   | (with_reducible exact targumref1_Lines.mono _ _ _)
   | (with_reducible exact targumref1_Marker.mono _ _ _ _ _)
   | (with_reducible exact targumref1_May.mono _ _ _)
   | (with_reducible exact LeO.refl _)
   | (with_reducible exact LeO.none _)
   | (with_reducible refine LeO.ite ?_ ?_)
   | (with_reducible refine LeO.bind ?_ (fun _ => ?_))
   | exact ih0 _ _ _
   | exact ih1 _ _ _ _
   | exact ih2 _ _ _ _ _ _ _
   | exact ih3 _ _
   | exact brk_Break.mono _ _ _ _
   | exact brk_Check.mono _ _
   | exact brk_Lines.mono _ _ _
   | exact brk_Marker.mono _ _ _ _ _
   | exact brk_May.mono _ _ _
   | exact targumhelp_Lines.mono _ _ _
   | exact targumlaw2_known.mono _
   | exact targumref1_Blank.mono _ _ _ _ _
   | exact targumref1_Break.mono _ _ _ _
   | exact targumref1_Check.mono _ _
   | exact targumref1_Indent.mono _ _ _ _ _
   | exact targumref1_Lines.mono _ _ _
   | exact targumref1_Marker.mono _ _ _ _ _
   | exact targumref1_May.mono _ _ _
   | exact LeO.none _
   | refine LeO.ite ?_ ?_
   | refine LeO.bind ?_ (fun _ => ?_)
  ·intro y0 y1 y2 y3
   unfold targumlaw2_BrkTells.l0
   repeat' first
   | (with_reducible exact ih0 _ _ _)
   | (with_reducible exact ih1 _ _ _ _)
   | (with_reducible exact ih2 _ _ _ _ _ _ _)
   | (with_reducible exact ih3 _ _)
   | (with_reducible exact brk_Break.mono _ _ _ _)
   | (with_reducible exact brk_Check.mono _ _)
   | (with_reducible exact brk_Lines.mono _ _ _)
   | (with_reducible exact brk_Marker.mono _ _ _ _ _)
   | (with_reducible exact brk_May.mono _ _ _)
   | (with_reducible exact targumhelp_Lines.mono _ _ _)
   | (with_reducible exact targumlaw2_known.mono _)
   | (with_reducible exact targumref1_Blank.mono _ _ _ _ _)
   | (with_reducible exact targumref1_Break.mono _ _ _ _)
   | (with_reducible exact targumref1_Check.mono _ _)
   | (with_reducible exact targumref1_Indent.mono _ _ _ _ _)
   | (with_reducible exact targumref1_Lines.mono _ _ _)
   | (with_reducible exact targumref1_Marker.mono _ _ _ _ _)
   | (with_reducible exact targumref1_May.mono _ _ _)
   | (with_reducible exact LeO.refl _)
   | (with_reducible exact LeO.none _)
   | (with_reducible refine LeO.ite ?_ ?_)
   | (with_reducible refine LeO.bind ?_ (fun _ => ?_))
   | exact ih0 _ _ _
   | exact ih1 _ _ _ _
   | exact ih2 _ _ _ _ _ _ _
   | exact ih3 _ _
   | exact brk_Break.mono _ _ _ _
   | exact brk_Check.mono _ _
   | exact brk_Lines.mono _ _ _
   | exact brk_Marker.mono _ _ _ _ _
   | exact brk_May.mono _ _ _
   | exact targumhelp_Lines.mono _ _ _
   | exact targumlaw2_known.mono _
   | exact targumref1_Blank.mono _ _ _ _ _
   | exact targumref1_Break.mono _ _ _ _
   | exact targumref1_Check.mono _ _
   | exact targumref1_Indent.mono _ _ _ _ _
   | exact targumref1_Lines.mono _ _ _
   | exact targumref1_Marker.mono _ _ _ _ _
   | exact targumref1_May.mono _ _ _
   | exact LeO.none _
   | refine LeO.ite ?_ ?_
   | refine LeO.bind ?_ (fun _ => ?_)
  ·intro y0 y1 y2 y3 y4 y5 y6
   unfold targumlaw2_BrkTells.l1
   repeat' first
   | (with_reducible exact ih0 _ _ _)
   | (with_reducible exact ih1 _ _ _ _)
   | (with_reducible exact ih2 _ _ _ _ _ _ _)
   | (with_reducible exact ih3 _ _)
   | (with_reducible exact brk_Break.mono _ _ _ _)
   | (with_reducible exact brk_Check.mono _ _)
   | (with_reducible exact brk_Lines.mono _ _ _)
   | (with_reducible exact brk_Marker.mono _ _ _ _ _)
   | (with_reducible exact brk_May.mono _ _ _)
   | (with_reducible exact targumhelp_Lines.mono _ _ _)
   | (with_reducible exact targumlaw2_known.mono _)
   | (with_reducible exact targumref1_Blank.mono _ _ _ _ _)
   | (with_reducible exact targumref1_Break.mono _ _ _ _)
   | (with_reducible exact targumref1_Check.mono _ _)
   | (with_reducible exact targumref1_Indent.mono _ _ _ _ _)
   | (with_reducible exact targumref1_Lines.mono _ _ _)
   | (with_reducible exact targumref1_Marker.mono _ _ _ _ _)
   | (with_reducible exact targumref1_May.mono _ _ _)
   | (with_reducible exact LeO.refl _)
   | (with_reducible exact LeO.none _)
   | (with_reducible refine LeO.ite ?_ ?_)
   | (with_reducible refine LeO.bind ?_ (fun _ => ?_))
   | exact ih0 _ _ _
   | exact ih1 _ _ _ _
   | exact ih2 _ _ _ _ _ _ _
   | exact ih3 _ _
   | exact brk_Break.mono _ _ _ _
   | exact brk_Check.mono _ _
   | exact brk_Lines.mono _ _ _
   | exact brk_Marker.mono _ _ _ _ _
   | exact brk_May.mono _ _ _
   | exact targumhelp_Lines.mono _ _ _
   | exact targumlaw2_known.mono _
   | exact targumref1_Blank.mono _ _ _ _ _
   | exact targumref1_Break.mono _ _ _ _
   | exact targumref1_Check.mono _ _
   | exact targumref1_Indent.mono _ _ _ _ _
   | exact targumref1_Lines.mono _ _ _
   | exact targumref1_Marker.mono _ _ _ _ _
   | exact targumref1_May.mono _ _ _
   | exact LeO.none _
   | refine LeO.ite ?_ ?_
   | refine LeO.bind ?_ (fun _ => ?_)
  ·intro y0 y1
   unfold targumlaw2_BrkTells.l2
   repeat' first
   | (with_reducible exact ih0 _ _ _)
   | (with_reducible exact ih1 _ _ _ _)
   | (with_reducible exact ih2 _ _ _ _ _ _ _)
   | (with_reducible exact ih3 _ _)
   | (with_reducible exact brk_Break.mono _ _ _ _)
   | (with_reducible exact brk_Check.mono _ _)
   | (with_reducible exact brk_Lines.mono _ _ _)
   | (with_reducible exact brk_Marker.mono _ _ _ _ _)
   | (with_reducible exact brk_May.mono _ _ _)
   | (with_reducible exact targumhelp_Lines.mono _ _ _)
   | (with_reducible exact targumlaw2_known.mono _)
   | (with_reducible exact targumref1_Blank.mono _ _ _ _ _)
   | (with_reducible exact targumref1_Break.mono _ _ _ _)
   | (with_reducible exact targumref1_Check.mono _ _)
   | (with_reducible exact targumref1_Indent.mono _ _ _ _ _)
   | (with_reducible exact targumref1_Lines.mono _ _ _)
   | (with_reducible exact targumref1_Marker.mono _ _ _ _ _)
   | (with_reducible exact targumref1_May.mono _ _ _)
   | (with_reducible exact LeO.refl _)
   | (with_reducible exact LeO.none _)
   | (with_reducible refine LeO.ite ?_ ?_)
   | (with_reducible refine LeO.bind ?_ (fun _ => ?_))
   | exact ih0 _ _ _
   | exact ih1 _ _ _ _
   | exact ih2 _ _ _ _ _ _ _
   | exact ih3 _ _
   | exact brk_Break.mono _ _ _ _
   | exact brk_Check.mono _ _
   | exact brk_Lines.mono _ _ _
   | exact brk_Marker.mono _ _ _ _ _
   | exact brk_May.mono _ _ _
   | exact targumhelp_Lines.mono _ _ _
   | exact targumlaw2_known.mono _
   | exact targumref1_Blank.mono _ _ _ _ _
   | exact targumref1_Break.mono _ _ _ _
   | exact targumref1_Check.mono _ _
   | exact targumref1_Indent.mono _ _ _ _ _
   | exact targumref1_Lines.mono _ _ _
   | exact targumref1_Marker.mono _ _ _ _ _
   | exact targumref1_May.mono _ _ _
   | exact LeO.none _
   | refine LeO.ite ?_ ?_
   | refine LeO.bind ?_ (fun _ => ?_)
theorem targumlaw2_BrkTells.mono : ∀ a0 a1 a2 a3 a4 a5 k, LeO (targumlaw2_BrkTells.f k a0 a1 a2 a3 a4 a5) (targumlaw2_BrkTells.f (k + 1) a0 a1 a2 a3 a4 a5) := by
 intro a0 a1 a2 a3 a4 a5 k
 obtain ⟨ih0, ih1, ih2, ih3⟩ := targumlaw2_BrkTells.mono_l k
 unfold targumlaw2_BrkTells.f
 repeat' first
   | (with_reducible exact ih0 _ _ _)
   | (with_reducible exact ih1 _ _ _ _)
   | (with_reducible exact ih2 _ _ _ _ _ _ _)
   | (with_reducible exact ih3 _ _)
   | (with_reducible exact brk_Break.mono _ _ _ _)
   | (with_reducible exact brk_Check.mono _ _)
   | (with_reducible exact brk_Lines.mono _ _ _)
   | (with_reducible exact brk_Marker.mono _ _ _ _ _)
   | (with_reducible exact brk_May.mono _ _ _)
   | (with_reducible exact targumhelp_Lines.mono _ _ _)
   | (with_reducible exact targumlaw2_known.mono _)
   | (with_reducible exact targumref1_Blank.mono _ _ _ _ _)
   | (with_reducible exact targumref1_Break.mono _ _ _ _)
   | (with_reducible exact targumref1_Check.mono _ _)
   | (with_reducible exact targumref1_Indent.mono _ _ _ _ _)
   | (with_reducible exact targumref1_Lines.mono _ _ _)
   | (with_reducible exact targumref1_Marker.mono _ _ _ _ _)
   | (with_reducible exact targumref1_May.mono _ _ _)
   | (with_reducible exact LeO.refl _)
   | (with_reducible exact LeO.none _)
   | (with_reducible refine LeO.ite ?_ ?_)
   | (with_reducible refine LeO.bind ?_ (fun _ => ?_))
   | exact ih0 _ _ _
   | exact ih1 _ _ _ _
   | exact ih2 _ _ _ _ _ _ _
   | exact ih3 _ _
   | exact brk_Break.mono _ _ _ _
   | exact brk_Check.mono _ _
   | exact brk_Lines.mono _ _ _
   | exact brk_Marker.mono _ _ _ _ _
   | exact brk_May.mono _ _ _
   | exact targumhelp_Lines.mono _ _ _
   | exact targumlaw2_known.mono _
   | exact targumref1_Blank.mono _ _ _ _ _
   | exact targumref1_Break.mono _ _ _ _
   | exact targumref1_Check.mono _ _
   | exact targumref1_Indent.mono _ _ _ _ _
   | exact targumref1_Lines.mono _ _ _
   | exact targumref1_Marker.mono _ _ _ _ _
   | exact targumref1_May.mono _ _ _
   | exact LeO.none _
   | refine LeO.ite ?_ ?_
   | refine LeO.bind ?_ (fun _ => ?_)
def targumlaw2_BrkTells.T5 : Bool × List (List Nat × List Nat) := (true, [([], []), ([], []), ([], []), ([0, 1, 2], [0, 1, 2]), ([], []), ([], []), ([], []), ([4, 5, 6, 3], [4, 5, 6]), ([3, 7], [3, 7]), ([8, 7], [8]), ([9], [9]), ([9], [9]), ([10, 11, 9, 9], [9, 10, 11]), ([9], [9]), ([9], [9]), ([13, 14, 12, 9], [9, 13, 14]), ([12, 15, 9], [9, 12, 15]), ([9, 16], [9, 16]), ([17, 15], [17]), ([18], [18]), ([19, 18, 18], [18, 19]), ([18], [18]), ([21, 20, 18], [18, 21]), ([20, 22, 18], [18, 20, 22]), ([18, 23], [18, 23]), ([24, 22], [24]), ([25], [25]), ([25], [25]), ([26, 27, 25, 25], [25, 26, 27]), ([25], [25]), ([25], [25]), ([29, 30, 28, 25], [25, 29, 30]), ([28, 31, 25], [25, 28, 31]), ([25, 32], [25, 32]), ([33, 31], [33]), ([34], [34]), ([34], [34]), ([35, 36, 34, 34], [34, 35, 36]), ([34], [34]), ([34], [34]), ([38, 39, 37, 34], [34, 38, 39]), ([37, 40, 34], [34, 37, 40]), ([34, 41], [34, 41]), ([42, 40], [42]), ([43], [43]), ([43], [43]), ([44, 45, 43, 43], [43, 44, 45]), ([43], [43]), ([43], [43]), ([47, 48, 46, 43], [43, 47, 48]), ([46, 49, 43], [43, 46, 49]), ([43, 50], [43, 50])])
def targumlaw2_BrkTells.B5 : List Nat := [0, 0, 0, 7, 0, 0, 0, 127, 255, 511, 1023, 1023, 4095, 1023, 1023, 32767, 65535, 131071, 262143, 524287, 1048575, 524287, 4194303, 8388607, 16777215, 33554431, 67108863, 67108863, 268435455, 67108863, 67108863, 2147483647, 4294967295, 8589934591, 17179869183, 34359738367, 34359738367, 137438953471, 34359738367, 34359738367, 1099511627775, 2199023255551, 4398046511103, 8796093022207, 17592186044415, 17592186044415, 70368744177663, 17592186044415, 17592186044415, 562949953421311, 1125899906842623, 2251799813685247]
theorem targumlaw2_BrkTells.tab5 : rtab .any (opsOf Tryd.f7 5) = targumlaw2_BrkTells.T5 := by kernel_rfl
theorem targumlaw2_BrkTells.bits5 : waitsOk targumlaw2_BrkTells.T5.2 targumlaw2_BrkTells.B5 = true := by kernel_rfl
def targumlaw2_BrkTells.T16 : Bool × List (List Nat × List Nat) := (true, [([], []), ([], []), ([0, 1], [0, 1]), ([], []), ([], []), ([3, 4, 2], [3, 4]), ([2, 5], [2, 5]), ([6, 5], [6]), ([7], [7]), ([7], [7]), ([8, 9, 7, 7], [7, 8, 9]), ([7], [7]), ([7], [7]), ([11, 12, 10, 7], [7, 11, 12]), ([10, 13, 7], [7, 10, 13]), ([7, 14], [7, 14]), ([15, 13], [15]), ([16], [16]), ([16], [16]), ([17, 18, 16, 16], [16, 17, 18]), ([16], [16]), ([16], [16]), ([20, 21, 19, 16], [16, 20, 21]), ([19, 22, 16], [16, 19, 22]), ([16, 23], [16, 23])])
def targumlaw2_BrkTells.B16 : List Nat := [0, 0, 3, 0, 0, 31, 63, 127, 255, 255, 1023, 255, 255, 8191, 16383, 32767, 65535, 131071, 131071, 524287, 131071, 131071, 4194303, 8388607, 16777215]
theorem targumlaw2_BrkTells.tab16 : rtab .any (opsOf Tryd.f7 16) = targumlaw2_BrkTells.T16 := by kernel_rfl
theorem targumlaw2_BrkTells.bits16 : waitsOk targumlaw2_BrkTells.T16.2 targumlaw2_BrkTells.B16 = true := by kernel_rfl
abbrev mk_0 : Array Bool := #[false,false,false,false,false,false,false,false,false,false,false,false,false,false,false,false,false,false,false,false,false,false,false,false,false,false,false,false,false,false,false,false,false,false,false,false,false,false,false,false,false,false,false,false,false,false,false,false,false,false,false,false]
abbrev mk_1 : Array Bool := #[true,false,false,false,false,false,false,false,false,false,false,false,false,false,false,false,false,false,false,false,false,false,false,false,false,false,false,false,false,false,false,false,false,false,false,false,false,false,false,false,false,false,false,false,false,false,false,false,false,false,false,false]
abbrev mk_2 : Array Bool := #[true,true,false,false,false,false,false,false,false,false,false,false,false,false,false,false,false,false,false,false,false,false,false,false,false,false,false,false,false,false,false,false,false,false,false,false,false,false,false,false,false,false,false,false,false,false,false,false,false,false,false,false]
abbrev mk_3 : Array Bool := #[true,true,true,false,false,false,false,false,false,false,false,false,false,false,false,false,false,false,false,false,false,false,false,false,false,false,false,false,false,false,false,false,false,false,false,false,false,false,false,false,false,false,false,false,false,false,false,false,false,false,false,false]
abbrev mk_4 : Array Bool := #[true,true,true,false,true,false,false,false,false,false,false,false,false,false,false,false,false,false,false,false,false,false,false,false,false,false,false,false,false,false,false,false,false,false,false,false,false,false,false,false,false,false,false,false,false,false,false,false,false,false,false,false]
abbrev mk_5 : Array Bool := #[true,true,true,false,true,true,false,false,false,false,false,false,false,false,false,false,false,false,false,false,false,false,false,false,false,false,false,false,false,false,false,false,false,false,false,false,false,false,false,false,false,false,false,false,false,false,false,false,false,false,false,false]
abbrev mk_6 : Array Bool := #[true,true,true,false,true,true,true,false,false,false,false,false,false,false,false,false,false,false,false,false,false,false,false,false,false,false,false,false,false,false,false,false,false,false,false,false,false,false,false,false,false,false,false,false,false,false,false,false,false,false,false,false]
abbrev mk_7 : Array Bool := #[true,true,true,true,true,true,true,false,false,false,false,false,false,false,false,false,false,false,false,false,false,false,false,false,false,false,false,false,false,false,false,false,false,false,false,false,false,false,false,false,false,false,false,false,false,false,false,false,false,false,false,false]
abbrev mk_8 : Array Bool := #[true,true,true,true,true,true,true,true,false,false,false,false,false,false,false,false,false,false,false,false,false,false,false,false,false,false,false,false,false,false,false,false,false,false,false,false,false,false,false,false,false,false,false,false,false,false,false,false,false,false,false,false]
abbrev mk_9 : Array Bool := #[true,true,true,true,true,true,true,true,true,false,false,false,false,false,false,false,false,false,false,false,false,false,false,false,false,false,false,false,false,false,false,false,false,false,false,false,false,false,false,false,false,false,false,false,false,false,false,false,false,false,false,false]
abbrev mk_10 : Array Bool := #[true,true,true,true,true,true,true,true,true,true,false,false,false,false,false,false,false,false,false,false,false,false,false,false,false,false,false,false,false,false,false,false,false,false,false,false,false,false,false,false,false,false,false,false,false,false,false,false,false,false,false,false]
abbrev mk_11 : Array Bool := #[true,true,true,true,true,true,true,true,true,true,true,false,false,false,false,false,false,false,false,false,false,false,false,false,false,false,false,false,false,false,false,false,false,false,false,false,false,false,false,false,false,false,false,false,false,false,false,false,false,false,false,false]
abbrev mk_12 : Array Bool := #[true,true,true,true,true,true,true,true,true,true,true,true,false,false,false,false,false,false,false,false,false,false,false,false,false,false,false,false,false,false,false,false,false,false,false,false,false,false,false,false,false,false,false,false,false,false,false,false,false,false,false,false]
abbrev mk_13 : Array Bool := #[true,true,true,true,true,true,true,true,true,true,true,true,false,true,false,false,false,false,false,false,false,false,false,false,false,false,false,false,false,false,false,false,false,false,false,false,false,false,false,false,false,false,false,false,false,false,false,false,false,false,false,false]
abbrev mk_14 : Array Bool := #[true,true,true,true,true,true,true,true,true,true,true,true,false,true,true,false,false,false,false,false,false,false,false,false,false,false,false,false,false,false,false,false,false,false,false,false,false,false,false,false,false,false,false,false,false,false,false,false,false,false,false,false]
abbrev mk_15 : Array Bool := #[true,true,true,true,true,true,true,true,true,true,true,true,true,true,true,false,false,false,false,false,false,false,false,false,false,false,false,false,false,false,false,false,false,false,false,false,false,false,false,false,false,false,false,false,false,false,false,false,false,false,false,false]
abbrev mk_16 : Array Bool := #[true,true,true,true,true,true,true,true,true,true,true,true,true,true,true,true,false,false,false,false,false,false,false,false,false,false,false,false,false,false,false,false,false,false,false,false,false,false,false,false,false,false,false,false,false,false,false,false,false,false,false,false]
abbrev mk_17 : Array Bool := #[true,true,true,true,true,true,true,true,true,true,true,true,true,true,true,true,true,false,false,false,false,false,false,false,false,false,false,false,false,false,false,false,false,false,false,false,false,false,false,false,false,false,false,false,false,false,false,false,false,false,false,false]
abbrev mk_18 : Array Bool := #[true,true,true,true,true,true,true,true,true,true,true,true,true,true,true,true,true,true,false,false,false,false,false,false,false,false,false,false,false,false,false,false,false,false,false,false,false,false,false,false,false,false,false,false,false,false,false,false,false,false,false,false]
abbrev mk_19 : Array Bool := #[true,true,true,true,true,true,true,true,true,true,true,true,true,true,true,true,true,true,true,false,false,false,false,false,false,false,false,false,false,false,false,false,false,false,false,false,false,false,false,false,false,false,false,false,false,false,false,false,false,false,false,false]
abbrev mk_20 : Array Bool := #[true,true,true,true,true,true,true,true,true,true,true,true,true,true,true,true,true,true,true,true,false,false,false,false,false,false,false,false,false,false,false,false,false,false,false,false,false,false,false,false,false,false,false,false,false,false,false,false,false,false,false,false]
abbrev mk_21 : Array Bool := #[true,true,true,true,true,true,true,true,true,true,true,true,true,true,true,true,true,true,true,true,false,true,false,false,false,false,false,false,false,false,false,false,false,false,false,false,false,false,false,false,false,false,false,false,false,false,false,false,false,false,false,false]
abbrev mk_22 : Array Bool := #[true,true,true,true,true,true,true,true,true,true,true,true,true,true,true,true,true,true,true,true,true,true,false,false,false,false,false,false,false,false,false,false,false,false,false,false,false,false,false,false,false,false,false,false,false,false,false,false,false,false,false,false]
abbrev mk_23 : Array Bool := #[true,true,true,true,true,true,true,true,true,true,true,true,true,true,true,true,true,true,true,true,true,true,true,false,false,false,false,false,false,false,false,false,false,false,false,false,false,false,false,false,false,false,false,false,false,false,false,false,false,false,false,false]
abbrev mk_24 : Array Bool := #[true,true,true,true,true,true,true,true,true,true,true,true,true,true,true,true,true,true,true,true,true,true,true,true,false,false,false,false,false,false,false,false,false,false,false,false,false,false,false,false,false,false,false,false,false,false,false,false,false,false,false,false]
abbrev mk_25 : Array Bool := #[true,true,true,true,true,true,true,true,true,true,true,true,true,true,true,true,true,true,true,true,true,true,true,true,true,false,false,false,false,false,false,false,false,false,false,false,false,false,false,false,false,false,false,false,false,false,false,false,false,false,false,false]
abbrev mk_26 : Array Bool := #[true,true,true,true,true,true,true,true,true,true,true,true,true,true,true,true,true,true,true,true,true,true,true,true,true,true,false,false,false,false,false,false,false,false,false,false,false,false,false,false,false,false,false,false,false,false,false,false,false,false,false,false]
abbrev mk_27 : Array Bool := #[true,true,true,true,true,true,true,true,true,true,true,true,true,true,true,true,true,true,true,true,true,true,true,true,true,true,true,false,false,false,false,false,false,false,false,false,false,false,false,false,false,false,false,false,false,false,false,false,false,false,false,false]
abbrev mk_28 : Array Bool := #[true,true,true,true,true,true,true,true,true,true,true,true,true,true,true,true,true,true,true,true,true,true,true,true,true,true,true,false,false,true,false,false,false,false,false,false,false,false,false,false,false,false,false,false,false,false,false,false,false,false,false,false]
abbrev mk_29 : Array Bool := #[true,true,true,true,true,true,true,true,true,true,true,true,true,true,true,true,true,true,true,true,true,true,true,true,true,true,true,true,false,true,false,false,false,false,false,false,false,false,false,false,false,false,false,false,false,false,false,false,false,false,false,false]
abbrev mk_30 : Array Bool := #[true,true,true,true,true,true,true,true,true,true,true,true,true,true,true,true,true,true,true,true,true,true,true,true,true,true,true,true,false,true,true,false,false,false,false,false,false,false,false,false,false,false,false,false,false,false,false,false,false,false,false,false]
abbrev mk_31 : Array Bool := #[true,true,true,true,true,true,true,true,true,true,true,true,true,true,true,true,true,true,true,true,true,true,true,true,true,true,true,true,true,true,true,false,false,false,false,false,false,false,false,false,false,false,false,false,false,false,false,false,false,false,false,false]
abbrev mk_32 : Array Bool := #[true,true,true,true,true,true,true,true,true,true,true,true,true,true,true,true,true,true,true,true,true,true,true,true,true,true,true,true,true,true,true,true,false,false,false,false,false,false,false,false,false,false,false,false,false,false,false,false,false,false,false,false]
abbrev mk_33 : Array Bool := #[true,true,true,true,true,true,true,true,true,true,true,true,true,true,true,true,true,true,true,true,true,true,true,true,true,true,true,true,true,true,true,true,true,false,false,false,false,false,false,false,false,false,false,false,false,false,false,false,false,false,false,false]
abbrev mk_34 : Array Bool := #[true,true,true,true,true,true,true,true,true,true,true,true,true,true,true,true,true,true,true,true,true,true,true,true,true,true,true,true,true,true,true,true,true,true,false,false,false,false,false,false,false,false,false,false,false,false,false,false,false,false,false,false]
abbrev mk_35 : Array Bool := #[true,true,true,true,true,true,true,true,true,true,true,true,true,true,true,true,true,true,true,true,true,true,true,true,true,true,true,true,true,true,true,true,true,true,true,false,false,false,false,false,false,false,false,false,false,false,false,false,false,false,false,false]
abbrev mk_36 : Array Bool := #[true,true,true,true,true,true,true,true,true,true,true,true,true,true,true,true,true,true,true,true,true,true,true,true,true,true,true,true,true,true,true,true,true,true,true,true,false,false,false,false,false,false,false,false,false,false,false,false,false,false,false,false]
abbrev mk_37 : Array Bool := #[true,true,true,true,true,true,true,true,true,true,true,true,true,true,true,true,true,true,true,true,true,true,true,true,true,true,true,true,true,true,true,true,true,true,true,true,false,false,true,false,false,false,false,false,false,false,false,false,false,false,false,false]
abbrev mk_38 : Array Bool := #[true,true,true,true,true,true,true,true,true,true,true,true,true,true,true,true,true,true,true,true,true,true,true,true,true,true,true,true,true,true,true,true,true,true,true,true,true,false,true,false,false,false,false,false,false,false,false,false,false,false,false,false]
abbrev mk_39 : Array Bool := #[true,true,true,true,true,true,true,true,true,true,true,true,true,true,true,true,true,true,true,true,true,true,true,true,true,true,true,true,true,true,true,true,true,true,true,true,true,false,true,true,false,false,false,false,false,false,false,false,false,false,false,false]
abbrev mk_40 : Array Bool := #[true,true,true,true,true,true,true,true,true,true,true,true,true,true,true,true,true,true,true,true,true,true,true,true,true,true,true,true,true,true,true,true,true,true,true,true,true,true,true,true,false,false,false,false,false,false,false,false,false,false,false,false]
abbrev mk_41 : Array Bool := #[true,true,true,true,true,true,true,true,true,true,true,true,true,true,true,true,true,true,true,true,true,true,true,true,true,true,true,true,true,true,true,true,true,true,true,true,true,true,true,true,true,false,false,false,false,false,false,false,false,false,false,false]
abbrev mk_42 : Array Bool := #[true,true,true,true,true,true,true,true,true,true,true,true,true,true,true,true,true,true,true,true,true,true,true,true,true,true,true,true,true,true,true,true,true,true,true,true,true,true,true,true,true,true,false,false,false,false,false,false,false,false,false,false]
abbrev mk_43 : Array Bool := #[true,true,true,true,true,true,true,true,true,true,true,true,true,true,true,true,true,true,true,true,true,true,true,true,true,true,true,true,true,true,true,true,true,true,true,true,true,true,true,true,true,true,true,false,false,false,false,false,false,false,false,false]
abbrev mk_44 : Array Bool := #[true,true,true,true,true,true,true,true,true,true,true,true,true,true,true,true,true,true,true,true,true,true,true,true,true,true,true,true,true,true,true,true,true,true,true,true,true,true,true,true,true,true,true,true,false,false,false,false,false,false,false,false]
abbrev mk_45 : Array Bool := #[true,true,true,true,true,true,true,true,true,true,true,true,true,true,true,true,true,true,true,true,true,true,true,true,true,true,true,true,true,true,true,true,true,true,true,true,true,true,true,true,true,true,true,true,true,false,false,false,false,false,false,false]
abbrev mk_46 : Array Bool := #[true,true,true,true,true,true,true,true,true,true,true,true,true,true,true,true,true,true,true,true,true,true,true,true,true,true,true,true,true,true,true,true,true,true,true,true,true,true,true,true,true,true,true,true,true,true,false,false,false,false,false,false]
abbrev mk_47 : Array Bool := #[true,true,true,true,true,true,true,true,true,true,true,true,true,true,true,true,true,true,true,true,true,true,true,true,true,true,true,true,true,true,true,true,true,true,true,true,true,true,true,true,true,true,true,true,true,true,true,false,false,false,false,false]
abbrev mk_48 : Array Bool := #[true,true,true,true,true,true,true,true,true,true,true,true,true,true,true,true,true,true,true,true,true,true,true,true,true,true,true,true,true,true,true,true,true,true,true,true,true,true,true,true,true,true,true,true,true,true,true,true,false,false,false,false]
abbrev mk_49 : Array Bool := #[true,true,true,true,true,true,true,true,true,true,true,true,true,true,true,true,true,true,true,true,true,true,true,true,true,true,true,true,true,true,true,true,true,true,true,true,true,true,true,true,true,true,true,true,true,true,true,true,true,false,false,false]
abbrev mk_50 : Array Bool := #[true,true,true,true,true,true,true,true,true,true,true,true,true,true,true,true,true,true,true,true,true,true,true,true,true,true,true,true,true,true,true,true,true,true,true,true,true,true,true,true,true,true,true,true,true,true,true,true,true,true,false,false]
abbrev mk_51 : Array Bool := #[true,true,true,true,true,true,true,true,true,true,true,true,true,true,true,true,true,true,true,true,true,true,true,true,true,true,true,true,true,true,true,true,true,true,true,true,true,true,true,true,true,true,true,true,true,true,true,true,true,true,true,false]
abbrev mk_52 : Array Bool := #[true,true,true,true,true,true,true,true,true,true,true,true,true,true,true,true,true,true,true,true,true,true,true,true,true,true,true,true,true,true,true,true,true,true,true,true,true,true,true,true,true,true,true,true,true,true,true,true,true,true,true,true]
abbrev mk_53 : Array Bool := #[true,true,true,true,true,true,true,true,true,true,true,true,true,true,true,true,true,true,true,true,true,true,true,true,true,true,true,true,true,true,true,true,true,true,true,true,true,true,true,true,true,true,true,true,true,false,false,true,false,false,false,false]
abbrev mk_54 : Array Bool := #[true,true,true,true,true,true,true,true,true,true,true,true,true,true,true,true,true,true,true,true,true,true,true,true,true,true,true,true,true,true,true,true,true,true,true,true,true,true,true,true,true,true,true,true,true,true,false,true,false,false,false,false]
abbrev mk_55 : Array Bool := #[true,true,true,true,true,true,true,true,true,true,true,true,true,true,true,true,true,true,true,true,true,true,true,true,true,true,true,true,true,true,true,true,true,true,true,true,true,true,true,true,true,true,true,true,true,true,false,true,true,false,false,false]
abbrev mk_56 : Array Bool := #[true,true,true,true,true,true,true,true,true,true,true,true,true,true,true,true,true,true,true,true,true,true,true,true,true,true,true,true,true,true,true,true,true,true,true,true,true,false,false,false,false,false,false,false,false,false,false,false,false,false,false,false]
abbrev mk_57 : Array Bool := #[true,true,true,true,true,true,true,true,true,true,true,true,true,true,true,true,true,true,true,true,true,true,true,true,true,true,true,true,true,true,true,true,true,true,true,true,true,true,false,false,false,false,false,false,false,false,false,false,false,false,false,false]
abbrev mk_58 : Array Bool := #[true,true,true,true,true,true,true,true,true,true,true,true,true,true,true,true,true,true,true,true,true,true,true,true,true,true,true,true,true,true,true,true,true,true,true,true,true,true,true,false,false,false,false,false,false,false,false,false,false,false,false,false]
abbrev mk_59 : Array Bool := #[true,true,true,true,true,true,true,true,true,true,true,true,true,true,true,true,true,true,true,true,true,true,true,true,true,true,true,true,false,false,false,false,false,false,false,false,false,false,false,false,false,false,false,false,false,false,false,false,false,false,false,false]
abbrev mk_60 : Array Bool := #[true,true,true,true,true,true,true,true,true,true,true,true,true,true,true,true,true,true,true,true,true,true,true,true,true,true,true,true,true,false,false,false,false,false,false,false,false,false,false,false,false,false,false,false,false,false,false,false,false,false,false,false]
abbrev mk_61 : Array Bool := #[true,true,true,true,true,true,true,true,true,true,true,true,true,true,true,true,true,true,true,true,true,true,true,true,true,true,true,true,true,true,false,false,false,false,false,false,false,false,false,false,false,false,false,false,false,false,false,false,false,false,false,false]
abbrev mk_62 : Array Bool := #[true,true,true,true,true,true,true,true,true,true,true,true,true,true,true,true,true,true,true,true,true,false,false,false,false,false,false,false,false,false,false,false,false,false,false,false,false,false,false,false,false,false,false,false,false,false,false,false,false,false,false,false]
abbrev mk_63 : Array Bool := #[true,true,true,true,true,true,true,true,true,true,true,true,true,false,false,false,false,false,false,false,false,false,false,false,false,false,false,false,false,false,false,false,false,false,false,false,false,false,false,false,false,false,false,false,false,false,false,false,false,false,false,false]
abbrev mk_64 : Array Bool := #[true,true,true,true,true,true,true,true,true,true,true,true,true,true,false,false,false,false,false,false,false,false,false,false,false,false,false,false,false,false,false,false,false,false,false,false,false,false,false,false,false,false,false,false,false,false,false,false,false,false,false,false]
abbrev mk_65 : Array Bool := #[false,false,false,false,false,false,false,false,false,false,false,false,false,false,false,false,false,false,false,false,false,false,false,false,false]
abbrev mk_66 : Array Bool := #[true,false,false,false,false,false,false,false,false,false,false,false,false,false,false,false,false,false,false,false,false,false,false,false,false]
abbrev mk_67 : Array Bool := #[true,false,false,true,false,false,false,false,false,false,false,false,false,false,false,false,false,false,false,false,false,false,false,false,false]
abbrev mk_68 : Array Bool := #[true,true,false,true,false,false,false,false,false,false,false,false,false,false,false,false,false,false,false,false,false,false,false,false,false]
abbrev mk_69 : Array Bool := #[true,true,false,true,true,false,false,false,false,false,false,false,false,false,false,false,false,false,false,false,false,false,false,false,false]
abbrev mk_70 : Array Bool := #[true,true,true,true,true,false,false,false,false,false,false,false,false,false,false,false,false,false,false,false,false,false,false,false,false]
abbrev mk_71 : Array Bool := #[true,true,true,true,true,true,false,false,false,false,false,false,false,false,false,false,false,false,false,false,false,false,false,false,false]
abbrev mk_72 : Array Bool := #[true,true,true,true,true,true,true,false,false,false,false,false,false,false,false,false,false,false,false,false,false,false,false,false,false]
abbrev mk_73 : Array Bool := #[true,true,true,true,true,true,true,true,false,false,false,false,false,false,false,false,false,false,false,false,false,false,false,false,false]
abbrev mk_74 : Array Bool := #[true,true,true,true,true,true,true,true,true,false,false,false,false,false,false,false,false,false,false,false,false,false,false,false,false]
abbrev mk_75 : Array Bool := #[true,true,true,true,true,true,true,true,true,false,false,true,false,false,false,false,false,false,false,false,false,false,false,false,false]
abbrev mk_76 : Array Bool := #[true,true,true,true,true,true,true,true,true,true,false,true,false,false,false,false,false,false,false,false,false,false,false,false,false]
abbrev mk_77 : Array Bool := #[true,true,true,true,true,true,true,true,true,true,false,true,true,false,false,false,false,false,false,false,false,false,false,false,false]
abbrev mk_78 : Array Bool := #[true,true,true,true,true,true,true,true,true,true,true,true,true,false,false,false,false,false,false,false,false,false,false,false,false]
abbrev mk_79 : Array Bool := #[true,true,true,true,true,true,true,true,true,true,true,true,true,true,false,false,false,false,false,false,false,false,false,false,false]
abbrev mk_80 : Array Bool := #[true,true,true,true,true,true,true,true,true,true,true,true,true,true,true,false,false,false,false,false,false,false,false,false,false]
abbrev mk_81 : Array Bool := #[true,true,true,true,true,true,true,true,true,true,true,true,true,true,true,true,false,false,false,false,false,false,false,false,false]
abbrev mk_82 : Array Bool := #[true,true,true,true,true,true,true,true,true,true,true,true,true,true,true,true,true,false,false,false,false,false,false,false,false]
abbrev mk_83 : Array Bool := #[true,true,true,true,true,true,true,true,true,true,true,true,true,true,true,true,true,true,false,false,false,false,false,false,false]
abbrev mk_84 : Array Bool := #[true,true,true,true,true,true,true,true,true,true,true,true,true,true,true,true,true,true,true,false,false,false,false,false,false]
abbrev mk_85 : Array Bool := #[true,true,true,true,true,true,true,true,true,true,true,true,true,true,true,true,true,true,true,true,false,false,false,false,false]
abbrev mk_86 : Array Bool := #[true,true,true,true,true,true,true,true,true,true,true,true,true,true,true,true,true,true,true,true,true,false,false,false,false]
abbrev mk_87 : Array Bool := #[true,true,true,true,true,true,true,true,true,true,true,true,true,true,true,true,true,true,true,true,true,true,false,false,false]
abbrev mk_88 : Array Bool := #[true,true,true,true,true,true,true,true,true,true,true,true,true,true,true,true,true,true,true,true,true,true,true,false,false]
abbrev mk_89 : Array Bool := #[true,true,true,true,true,true,true,true,true,true,true,true,true,true,true,true,true,true,true,true,true,true,true,true,false]
abbrev mk_90 : Array Bool := #[true,true,true,true,true,true,true,true,true,true,true,true,true,true,true,true,true,true,true,true,true,true,true,true,true]
abbrev mk_91 : Array Bool := #[true,true,true,true,true,true,true,true,true,true,true,true,true,true,true,true,true,true,false,false,true,false,false,false,false]
abbrev mk_92 : Array Bool := #[true,true,true,true,true,true,true,true,true,true,true,true,true,true,true,true,true,true,true,false,true,false,false,false,false]
abbrev mk_93 : Array Bool := #[true,true,true,true,true,true,true,true,true,true,true,true,true,true,true,true,true,true,true,false,true,true,false,false,false]
abbrev mk_94 : Array Bool := #[true,true,true,true,true,true,true,true,true,true,false,false,false,false,false,false,false,false,false,false,false,false,false,false,false]
abbrev mk_95 : Array Bool := #[true,true,true,true,true,true,true,true,true,true,true,false,false,false,false,false,false,false,false,false,false,false,false,false,false]
abbrev mk_96 : Array Bool := #[true,true,true,true,true,true,true,true,true,true,true,true,false,false,false,false,false,false,false,false,false,false,false,false,false]
end Go.Proofs.YtkphlddgfmgogaaDoor.PB
