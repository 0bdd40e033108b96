/- Written by this session's own program (xprint, made over the kit's print): Lean functions with the same answers as the Go functions, and the proofs of that. Not trusted: Lean checks it. -/
import Derived.Test.YtmpdggphhhljhaaDoorPTx0
import Derived.Test.YtmpdggphhhljhaaDoorPTx5
namespace Go.Proofs.YtmpdggphhhljhaaDoor.PT
open Go.RowKit Go.Proofs.YtmpdggphhhljhaaDoorW.PrintWords Go.Proofs.YtmpdggphhhljhaaDoorW.PrintLast Go.Proofs.YtmpdggphhhljhaaDoorW.PrintMore
attribute [local go_sem] max2_int min2_int max_two min_two max_three min_three max_four min_four   -- for this text's walks alone
set_option linter.unusedVariables false
set_option linter.unusedSimpArgs false

/-! ### targumref1_Detect: function 12 -/
mutual
def targumref1_Detect.j0 : Nat → Int → Int → Int → Int → Bool → Option (Int × Int)
 | 0, _, _, _, _, _ => none
 | k + 1, x4, x5, x6, x7, x16 => if x16 = true then (some (4, 4)) else (if x4 = 0 then (if x5 = 0 then (if x6 = 0 then (targumref1_Detect.j1 k x4 x5 x6 x7 (decide (x7 > 0))) else (targumref1_Detect.j1 k x4 x5 x6 x7 false)) else (targumref1_Detect.j1 k x4 x5 x6 x7 false)) else (targumref1_Detect.j1 k x4 x5 x6 x7 false))
def targumref1_Detect.j1 : Nat → Int → Int → Int → Int → Bool → Option (Int × Int)
 | 0, _, _, _, _, _ => none
 | k + 1, x4, x5, x6, x7, x31 => if x31 = true then (some (4, 0)) else (if x4 = 255 then (if x5 = 254 then (if x6 = 0 then (targumref1_Detect.j2 k x4 x5 x6 x7 (x7 == 0)) else (targumref1_Detect.j2 k x4 x5 x6 x7 false)) else (targumref1_Detect.j2 k x4 x5 x6 x7 false)) else (targumref1_Detect.j2 k x4 x5 x6 x7 false))
def targumref1_Detect.j2 : Nat → Int → Int → Int → Int → Bool → Option (Int × Int)
 | 0, _, _, _, _, _ => none
 | k + 1, x4, x5, x6, x7, x46 => if x46 = true then (some (5, 4)) else (if x4 > 0 then (if x5 = 0 then (if x6 = 0 then (targumref1_Detect.j3 k x4 x5 x6 (x7 == 0)) else (targumref1_Detect.j3 k x4 x5 x6 false)) else (targumref1_Detect.j3 k x4 x5 x6 false)) else (targumref1_Detect.j3 k x4 x5 x6 false))
def targumref1_Detect.j3 : Nat → Int → Int → Int → Bool → Option (Int × Int)
 | 0, _, _, _, _ => none
 | k + 1, x4, x5, x6, x61 => if x61 = true then (some (5, 0)) else (if x4 = 254 then (targumref1_Detect.j4 k x4 x5 x6 (x5 == 255)) else (targumref1_Detect.j4 k x4 x5 x6 false))
def targumref1_Detect.j4 : Nat → Int → Int → Int → Bool → Option (Int × Int)
 | 0, _, _, _, _ => none
 | k + 1, x4, x5, x6, x76 => if x76 = true then (some (2, 2)) else (if x4 = 0 then (targumref1_Detect.j5 k x4 x5 x6 (decide (x5 > 0))) else (targumref1_Detect.j5 k x4 x5 x6 false))
def targumref1_Detect.j5 : Nat → Int → Int → Int → Bool → Option (Int × Int)
 | 0, _, _, _, _ => none
 | k + 1, x4, x5, x6, x83 => if x83 = true then (some (2, 0)) else (if x4 = 255 then (targumref1_Detect.j6 k x4 x5 x6 (x5 == 254)) else (targumref1_Detect.j6 k x4 x5 x6 false))
def targumref1_Detect.j6 : Nat → Int → Int → Int → Bool → Option (Int × Int)
 | 0, _, _, _, _ => none
 | k + 1, x4, x5, x6, x90 => if x90 = true then (some (3, 2)) else (if x4 > 0 then (targumref1_Detect.j7 k x4 x5 x6 (x5 == 0)) else (targumref1_Detect.j7 k x4 x5 x6 false))
def targumref1_Detect.j7 : Nat → Int → Int → Int → Bool → Option (Int × Int)
 | 0, _, _, _, _ => none
 | k + 1, x4, x5, x6, x97 => if x97 = true then (some (3, 0)) else (if x4 = 239 then (if x5 = 187 then (if x6 = 191 then (some (1, 3)) else (some (1, 0))) else (some (1, 0))) else (some (1, 0)))
end
def targumref1_Detect.f (k : Nat) (l0 : List Int) : Option (Int × Int) := (targumref1_at.f l0 0).bind fun t198 => ((targumref1_at.f l0 1).bind fun t199 => ((targumref1_at.f l0 2).bind fun t200 => ((targumref1_at.f l0 3).bind fun t201 => (if t198 = 0 then (if t199 = 0 then (if t200 = 254 then (targumref1_Detect.j0 k t198 t199 t200 t201 (t201 == 255)) else (targumref1_Detect.j0 k t198 t199 t200 t201 false)) else (targumref1_Detect.j0 k t198 t199 t200 t201 false)) else (targumref1_Detect.j0 k t198 t199 t200 t201 false)))))
theorem targumref1_Detect.mono_l : ∀ k, (∀ y0 y1 y2 y3 y4, LeO (targumref1_Detect.j0 k y0 y1 y2 y3 y4) (targumref1_Detect.j0 (k + 1) y0 y1 y2 y3 y4)) ∧ (∀ y0 y1 y2 y3 y4, LeO (targumref1_Detect.j1 k y0 y1 y2 y3 y4) (targumref1_Detect.j1 (k + 1) y0 y1 y2 y3 y4)) ∧ (∀ y0 y1 y2 y3 y4, LeO (targumref1_Detect.j2 k y0 y1 y2 y3 y4) (targumref1_Detect.j2 (k + 1) y0 y1 y2 y3 y4)) ∧ (∀ y0 y1 y2 y3, LeO (targumref1_Detect.j3 k y0 y1 y2 y3) (targumref1_Detect.j3 (k + 1) y0 y1 y2 y3)) ∧ (∀ y0 y1 y2 y3, LeO (targumref1_Detect.j4 k y0 y1 y2 y3) (targumref1_Detect.j4 (k + 1) y0 y1 y2 y3)) ∧ (∀ y0 y1 y2 y3, LeO (targumref1_Detect.j5 k y0 y1 y2 y3) (targumref1_Detect.j5 (k + 1) y0 y1 y2 y3)) ∧ (∀ y0 y1 y2 y3, LeO (targumref1_Detect.j6 k y0 y1 y2 y3) (targumref1_Detect.j6 (k + 1) y0 y1 y2 y3)) ∧ (∀ y0 y1 y2 y3, LeO (targumref1_Detect.j7 k y0 y1 y2 y3) (targumref1_Detect.j7 (k + 1) y0 y1 y2 y3))
 | 0 => ⟨fun _ _ _ _ _ r h => by simp [targumref1_Detect.j0] at h, fun _ _ _ _ _ r h => by simp [targumref1_Detect.j1] at h, fun _ _ _ _ _ r h => by simp [targumref1_Detect.j2] at h, fun _ _ _ _ r h => by simp [targumref1_Detect.j3] at h, fun _ _ _ _ r h => by simp [targumref1_Detect.j4] at h, fun _ _ _ _ r h => by simp [targumref1_Detect.j5] at h, fun _ _ _ _ r h => by simp [targumref1_Detect.j6] at h, fun _ _ _ _ r h => by simp [targumref1_Detect.j7] at h⟩
 | k + 1 => by
  obtain ⟨ih0, ih1, ih2, ih3, ih4, ih5, ih6, ih7⟩ := targumref1_Detect.mono_l k
  refine ⟨?_, ?_, ?_, ?_, ?_, ?_, ?_, ?_⟩
  ·intro y0 y1 y2 y3 y4
   unfold targumref1_Detect.j0
   repeat' first
   | (with_reducible exact ih0 _ _ _ _ _)
   | (with_reducible exact ih1 _ _ _ _ _)
   | (with_reducible exact ih2 _ _ _ _ _)
   | (with_reducible exact ih3 _ _ _ _)
   | (with_reducible exact ih4 _ _ _ _)
   | (with_reducible exact ih5 _ _ _ _)
   | (with_reducible exact ih6 _ _ _ _)
   | (with_reducible exact ih7 _ _ _ _)
   | (with_reducible exact LeO.refl _)
   | (with_reducible exact LeO.none _)
   | (with_reducible refine LeO.ite ?_ ?_)
   | (with_reducible refine LeO.bind ?_ (fun _ => ?_))
   | exact ih0 _ _ _ _ _
   | exact ih1 _ _ _ _ _
   | exact ih2 _ _ _ _ _
   | exact ih3 _ _ _ _
   | exact ih4 _ _ _ _
   | exact ih5 _ _ _ _
   | exact ih6 _ _ _ _
   | exact ih7 _ _ _ _
   | exact LeO.none _
   | refine LeO.ite ?_ ?_
   | refine LeO.bind ?_ (fun _ => ?_)
  ·intro y0 y1 y2 y3 y4
   unfold targumref1_Detect.j1
   repeat' first
   | (with_reducible exact ih0 _ _ _ _ _)
   | (with_reducible exact ih1 _ _ _ _ _)
   | (with_reducible exact ih2 _ _ _ _ _)
   | (with_reducible exact ih3 _ _ _ _)
   | (with_reducible exact ih4 _ _ _ _)
   | (with_reducible exact ih5 _ _ _ _)
   | (with_reducible exact ih6 _ _ _ _)
   | (with_reducible exact ih7 _ _ _ _)
   | (with_reducible exact LeO.refl _)
   | (with_reducible exact LeO.none _)
   | (with_reducible refine LeO.ite ?_ ?_)
   | (with_reducible refine LeO.bind ?_ (fun _ => ?_))
   | exact ih0 _ _ _ _ _
   | exact ih1 _ _ _ _ _
   | exact ih2 _ _ _ _ _
   | exact ih3 _ _ _ _
   | exact ih4 _ _ _ _
   | exact ih5 _ _ _ _
   | exact ih6 _ _ _ _
   | exact ih7 _ _ _ _
   | exact LeO.none _
   | refine LeO.ite ?_ ?_
   | refine LeO.bind ?_ (fun _ => ?_)
  ·intro y0 y1 y2 y3 y4
   unfold targumref1_Detect.j2
   repeat' first
   | (with_reducible exact ih0 _ _ _ _ _)
   | (with_reducible exact ih1 _ _ _ _ _)
   | (with_reducible exact ih2 _ _ _ _ _)
   | (with_reducible exact ih3 _ _ _ _)
   | (with_reducible exact ih4 _ _ _ _)
   | (with_reducible exact ih5 _ _ _ _)
   | (with_reducible exact ih6 _ _ _ _)
   | (with_reducible exact ih7 _ _ _ _)
   | (with_reducible exact LeO.refl _)
   | (with_reducible exact LeO.none _)
   | (with_reducible refine LeO.ite ?_ ?_)
   | (with_reducible refine LeO.bind ?_ (fun _ => ?_))
   | exact ih0 _ _ _ _ _
   | exact ih1 _ _ _ _ _
   | exact ih2 _ _ _ _ _
   | exact ih3 _ _ _ _
   | exact ih4 _ _ _ _
   | exact ih5 _ _ _ _
   | exact ih6 _ _ _ _
   | exact ih7 _ _ _ _
   | exact LeO.none _
   | refine LeO.ite ?_ ?_
   | refine LeO.bind ?_ (fun _ => ?_)
  ·intro y0 y1 y2 y3
   unfold targumref1_Detect.j3
   repeat' first
   | (with_reducible exact ih0 _ _ _ _ _)
   | (with_reducible exact ih1 _ _ _ _ _)
   | (with_reducible exact ih2 _ _ _ _ _)
   | (with_reducible exact ih3 _ _ _ _)
   | (with_reducible exact ih4 _ _ _ _)
   | (with_reducible exact ih5 _ _ _ _)
   | (with_reducible exact ih6 _ _ _ _)
   | (with_reducible exact ih7 _ _ _ _)
   | (with_reducible exact LeO.refl _)
   | (with_reducible exact LeO.none _)
   | (with_reducible refine LeO.ite ?_ ?_)
   | (with_reducible refine LeO.bind ?_ (fun _ => ?_))
   | exact ih0 _ _ _ _ _
   | exact ih1 _ _ _ _ _
   | exact ih2 _ _ _ _ _
   | exact ih3 _ _ _ _
   | exact ih4 _ _ _ _
   | exact ih5 _ _ _ _
   | exact ih6 _ _ _ _
   | exact ih7 _ _ _ _
   | exact LeO.none _
   | refine LeO.ite ?_ ?_
   | refine LeO.bind ?_ (fun _ => ?_)
  ·intro y0 y1 y2 y3
   unfold targumref1_Detect.j4
   repeat' first
   | (with_reducible exact ih0 _ _ _ _ _)
   | (with_reducible exact ih1 _ _ _ _ _)
   | (with_reducible exact ih2 _ _ _ _ _)
   | (with_reducible exact ih3 _ _ _ _)
   | (with_reducible exact ih4 _ _ _ _)
   | (with_reducible exact ih5 _ _ _ _)
   | (with_reducible exact ih6 _ _ _ _)
   | (with_reducible exact ih7 _ _ _ _)
   | (with_reducible exact LeO.refl _)
   | (with_reducible exact LeO.none _)
   | (with_reducible refine LeO.ite ?_ ?_)
   | (with_reducible refine LeO.bind ?_ (fun _ => ?_))
   | exact ih0 _ _ _ _ _
   | exact ih1 _ _ _ _ _
   | exact ih2 _ _ _ _ _
   | exact ih3 _ _ _ _
   | exact ih4 _ _ _ _
   | exact ih5 _ _ _ _
   | exact ih6 _ _ _ _
   | exact ih7 _ _ _ _
   | exact LeO.none _
   | refine LeO.ite ?_ ?_
   | refine LeO.bind ?_ (fun _ => ?_)
  ·intro y0 y1 y2 y3
   unfold targumref1_Detect.j5
   repeat' first
   | (with_reducible exact ih0 _ _ _ _ _)
   | (with_reducible exact ih1 _ _ _ _ _)
   | (with_reducible exact ih2 _ _ _ _ _)
   | (with_reducible exact ih3 _ _ _ _)
   | (with_reducible exact ih4 _ _ _ _)
   | (with_reducible exact ih5 _ _ _ _)
   | (with_reducible exact ih6 _ _ _ _)
   | (with_reducible exact ih7 _ _ _ _)
   | (with_reducible exact LeO.refl _)
   | (with_reducible exact LeO.none _)
   | (with_reducible refine LeO.ite ?_ ?_)
   | (with_reducible refine LeO.bind ?_ (fun _ => ?_))
   | exact ih0 _ _ _ _ _
   | exact ih1 _ _ _ _ _
   | exact ih2 _ _ _ _ _
   | exact ih3 _ _ _ _
   | exact ih4 _ _ _ _
   | exact ih5 _ _ _ _
   | exact ih6 _ _ _ _
   | exact ih7 _ _ _ _
   | exact LeO.none _
   | refine LeO.ite ?_ ?_
   | refine LeO.bind ?_ (fun _ => ?_)
  ·intro y0 y1 y2 y3
   unfold targumref1_Detect.j6
   repeat' first
   | (with_reducible exact ih0 _ _ _ _ _)
   | (with_reducible exact ih1 _ _ _ _ _)
   | (with_reducible exact ih2 _ _ _ _ _)
   | (with_reducible exact ih3 _ _ _ _)
   | (with_reducible exact ih4 _ _ _ _)
   | (with_reducible exact ih5 _ _ _ _)
   | (with_reducible exact ih6 _ _ _ _)
   | (with_reducible exact ih7 _ _ _ _)
   | (with_reducible exact LeO.refl _)
   | (with_reducible exact LeO.none _)
   | (with_reducible refine LeO.ite ?_ ?_)
   | (with_reducible refine LeO.bind ?_ (fun _ => ?_))
   | exact ih0 _ _ _ _ _
   | exact ih1 _ _ _ _ _
   | exact ih2 _ _ _ _ _
   | exact ih3 _ _ _ _
   | exact ih4 _ _ _ _
   | exact ih5 _ _ _ _
   | exact ih6 _ _ _ _
   | exact ih7 _ _ _ _
   | exact LeO.none _
   | refine LeO.ite ?_ ?_
   | refine LeO.bind ?_ (fun _ => ?_)
  ·intro y0 y1 y2 y3
   unfold targumref1_Detect.j7
   repeat' first
   | (with_reducible exact ih0 _ _ _ _ _)
   | (with_reducible exact ih1 _ _ _ _ _)
   | (with_reducible exact ih2 _ _ _ _ _)
   | (with_reducible exact ih3 _ _ _ _)
   | (with_reducible exact ih4 _ _ _ _)
   | (with_reducible exact ih5 _ _ _ _)
   | (with_reducible exact ih6 _ _ _ _)
   | (with_reducible exact ih7 _ _ _ _)
   | (with_reducible exact LeO.refl _)
   | (with_reducible exact LeO.none _)
   | (with_reducible refine LeO.ite ?_ ?_)
   | (with_reducible refine LeO.bind ?_ (fun _ => ?_))
   | exact ih0 _ _ _ _ _
   | exact ih1 _ _ _ _ _
   | exact ih2 _ _ _ _ _
   | exact ih3 _ _ _ _
   | exact ih4 _ _ _ _
   | exact ih5 _ _ _ _
   | exact ih6 _ _ _ _
   | exact ih7 _ _ _ _
   | exact LeO.none _
   | refine LeO.ite ?_ ?_
   | refine LeO.bind ?_ (fun _ => ?_)
theorem targumref1_Detect.mono : ∀ a0 k, LeO (targumref1_Detect.f k a0) (targumref1_Detect.f (k + 1) a0) := by
 intro a0 k
 obtain ⟨ih0, ih1, ih2, ih3, ih4, ih5, ih6, ih7⟩ := targumref1_Detect.mono_l k
 unfold targumref1_Detect.f
 repeat' first
   | (with_reducible exact ih0 _ _ _ _ _)
   | (with_reducible exact ih1 _ _ _ _ _)
   | (with_reducible exact ih2 _ _ _ _ _)
   | (with_reducible exact ih3 _ _ _ _)
   | (with_reducible exact ih4 _ _ _ _)
   | (with_reducible exact ih5 _ _ _ _)
   | (with_reducible exact ih6 _ _ _ _)
   | (with_reducible exact ih7 _ _ _ _)
   | (with_reducible exact LeO.refl _)
   | (with_reducible exact LeO.none _)
   | (with_reducible refine LeO.ite ?_ ?_)
   | (with_reducible refine LeO.bind ?_ (fun _ => ?_))
   | exact ih0 _ _ _ _ _
   | exact ih1 _ _ _ _ _
   | exact ih2 _ _ _ _ _
   | exact ih3 _ _ _ _
   | exact ih4 _ _ _ _
   | exact ih5 _ _ _ _
   | exact ih6 _ _ _ _
   | exact ih7 _ _ _ _
   | exact LeO.none _
   | refine LeO.ite ?_ ?_
   | refine LeO.bind ?_ (fun _ => ?_)
set_option maxHeartbeats 8000000 in
set_option maxRecDepth 100000 in
theorem targumref1_Detect.calls (k : Nat) (A0 : Option Addr) (c0 : Nat) (l0 : List Int) (r1 : Int) (r2 : Int) (w : World) (hr0 : Kd.C (Kd.int .u8) w A0 l0.length l0) (hc0 : l0.length ≤ c0) (h : targumref1_Detect.f k l0 = some (r1, r2)) :
  Calls Tryd.prog 12 #[.slice A0 l0.length c0] w fun e w' => e = .returned (.tuple #[.int .i64 r1, .int .i64 r2]) ∧ Drawn0 w w' := by
 have HR0 := Aside0.mk hr0
 have HC0 := Aside0.mk hc0
 clear hr0 hc0
 have H : ((targumref1_at.f l0 0).bind fun t198 => ((targumref1_at.f l0 1).bind fun t199 => ((targumref1_at.f l0 2).bind fun t200 => ((targumref1_at.f l0 3).bind fun t201 => (if t198 = 0 then (if t199 = 0 then (if t200 = 254 then (targumref1_Detect.j0 k t198 t199 t200 t201 (t201 == 255)) else (targumref1_Detect.j0 k t198 t199 t200 t201 false)) else (targumref1_Detect.j0 k t198 t199 t200 t201 false)) else (targumref1_Detect.j0 k t198 t199 t200 t201 false)))))) = some (r1, r2) := h
 clear h
 replace H := Option.bind_eq_some_iff.mp H
 obtain ⟨t198, A20, H⟩ := H
 replace H : ((targumref1_at.f l0 1).bind fun t199 => ((targumref1_at.f l0 2).bind fun t200 => ((targumref1_at.f l0 3).bind fun t201 => (if t198 = 0 then (if t199 = 0 then (if t200 = 254 then (targumref1_Detect.j0 k t198 t199 t200 t201 (t201 == 255)) else (targumref1_Detect.j0 k t198 t199 t200 t201 false)) else (targumref1_Detect.j0 k t198 t199 t200 t201 false)) else (targumref1_Detect.j0 k t198 t199 t200 t201 false))))) = some (r1, r2) := H
 have A2 := Aside0.mk A20
 clear A20
 replace H := Option.bind_eq_some_iff.mp H
 obtain ⟨t199, A30, H⟩ := H
 replace H : ((targumref1_at.f l0 2).bind fun t200 => ((targumref1_at.f l0 3).bind fun t201 => (if t198 = 0 then (if t199 = 0 then (if t200 = 254 then (targumref1_Detect.j0 k t198 t199 t200 t201 (t201 == 255)) else (targumref1_Detect.j0 k t198 t199 t200 t201 false)) else (targumref1_Detect.j0 k t198 t199 t200 t201 false)) else (targumref1_Detect.j0 k t198 t199 t200 t201 false)))) = some (r1, r2) := H
 have A3 := Aside0.mk A30
 clear A30
 replace H := Option.bind_eq_some_iff.mp H
 obtain ⟨t200, A40, H⟩ := H
 replace H : ((targumref1_at.f l0 3).bind fun t201 => (if t198 = 0 then (if t199 = 0 then (if t200 = 254 then (targumref1_Detect.j0 k t198 t199 t200 t201 (t201 == 255)) else (targumref1_Detect.j0 k t198 t199 t200 t201 false)) else (targumref1_Detect.j0 k t198 t199 t200 t201 false)) else (targumref1_Detect.j0 k t198 t199 t200 t201 false))) = some (r1, r2) := H
 have A4 := Aside0.mk A40
 clear A40
 replace H := Option.bind_eq_some_iff.mp H
 obtain ⟨t201, A50, H⟩ := H
 replace H : (if t198 = 0 then (if t199 = 0 then (if t200 = 254 then (targumref1_Detect.j0 k t198 t199 t200 t201 (t201 == 255)) else (targumref1_Detect.j0 k t198 t199 t200 t201 false)) else (targumref1_Detect.j0 k t198 t199 t200 t201 false)) else (targumref1_Detect.j0 k t198 t199 t200 t201 false)) = some (r1, r2) := H
 have A5 := Aside0.mk A50
 clear A50
 have HC6 := Aside0.mk H
 clear H
 go_enter Tryd.func12, Tryd.ntmps12
 go_upto_region 2 with (first | ((with_reducible refine gate_callee (f := 26) rfl ?_); refine goesL_ (some 9) rfl rfl Tryd.func26 (by kernel_rfl) rfl #[.slice A0 l0.length c0, .int .i64 0] rfl (by (try simp only [List.map_toArray, List.map_cons, List.map_nil]); first | done | rfl | (simp only [List.length_drop, List.length_take]; rfl)) ?_; (with_reducible refine (targumref1_at.calls _ _ l0 0 t198 _ ?side1 ?side2 A2.out).mono ?_); (case side1 => repeat (first | exact HR0.out | (with_reducible refine Kd.C_alloc ?_ _) | (with_reducible refine Kd.C_drewN ?_ _) | (with_reducible refine Kd.C_drew ?_))); (case side2 => exact HC0.out); rintro e w' ⟨rfl, ⟨nd, rfl⟩⟩; refine ⟨_, rfl, ?_⟩) | ((with_reducible refine gate_callee (f := 26) rfl ?_); refine goesL_ (some 11) rfl rfl Tryd.func26 (by kernel_rfl) rfl #[.slice A0 l0.length c0, .int .i64 1] rfl (by (try simp only [List.map_toArray, List.map_cons, List.map_nil]); first | done | rfl | (simp only [List.length_drop, List.length_take]; rfl)) ?_; (with_reducible refine (targumref1_at.calls _ _ l0 1 t199 _ ?side1 ?side2 A3.out).mono ?_); (case side1 => repeat (first | exact HR0.out | (with_reducible refine Kd.C_alloc ?_ _) | (with_reducible refine Kd.C_drewN ?_ _) | (with_reducible refine Kd.C_drew ?_))); (case side2 => exact HC0.out); rintro e w' ⟨rfl, ⟨nd, rfl⟩⟩; refine ⟨_, rfl, ?_⟩) | ((with_reducible refine gate_callee (f := 26) rfl ?_); refine goesL_ (some 13) rfl rfl Tryd.func26 (by kernel_rfl) rfl #[.slice A0 l0.length c0, .int .i64 2] rfl (by (try simp only [List.map_toArray, List.map_cons, List.map_nil]); first | done | rfl | (simp only [List.length_drop, List.length_take]; rfl)) ?_; (with_reducible refine (targumref1_at.calls _ _ l0 2 t200 _ ?side1 ?side2 A4.out).mono ?_); (case side1 => repeat (first | exact HR0.out | (with_reducible refine Kd.C_alloc ?_ _) | (with_reducible refine Kd.C_drewN ?_ _) | (with_reducible refine Kd.C_drew ?_))); (case side2 => exact HC0.out); rintro e w' ⟨rfl, ⟨nd, rfl⟩⟩; refine ⟨_, rfl, ?_⟩) | ((with_reducible refine gate_callee (f := 26) rfl ?_); refine goesL_ (some 15) rfl rfl Tryd.func26 (by kernel_rfl) rfl #[.slice A0 l0.length c0, .int .i64 3] rfl (by (try simp only [List.map_toArray, List.map_cons, List.map_nil]); first | done | rfl | (simp only [List.length_drop, List.length_take]; rfl)) ?_; (with_reducible refine (targumref1_at.calls _ _ l0 3 t201 _ ?side1 ?side2 A5.out).mono ?_); (case side1 => repeat (first | exact HR0.out | (with_reducible refine Kd.C_alloc ?_ _) | (with_reducible refine Kd.C_drewN ?_ _) | (with_reducible refine Kd.C_drew ?_))); (case side2 => exact HC0.out); rintro e w' ⟨rfl, ⟨nd, rfl⟩⟩; refine ⟨_, rfl, ?_⟩))
 (try simp only [Act.put, List.setIfInBounds_toArray, List.set_cons_zero, List.set_cons_succ])
 go_cut [16] (fun v16 wc => ∃ (kq : Nat) (x16_5 : Bool), v16 = .bool x16_5 ∧ Aside0 (targumref1_Detect.j0 kq t198 t199 t200 t201 x16_5 = some (r1, r2)) ∧ Aside0 (kq ≤ k) ∧ Drawn0 w wc)
 case first =>
  have H := HC6.out
  clear HC6
  by_cases c7 : t198 = 0
  ·rw [if_pos c7] at H
   have c7b0 : (t198 == 0) = true := beq_iff_eq.mpr c7
   have c7b1 : (t198 != 0) = false := bne_eq_false_iff_eq.mpr c7
   clear c7
   (first | rw [c7b0] | (simp only [i64_w, i32_w]; rw [c7b0]) | skip)
   by_cases c8 : t199 = 0
   ·rw [if_pos c8] at H
    have c8b0 : (t199 == 0) = true := beq_iff_eq.mpr c8
    have c8b1 : (t199 != 0) = false := bne_eq_false_iff_eq.mpr c8
    clear c8
    by_cases c9 : t200 = 254
    ·rw [if_pos c9] at H
     have c9b0 : (t200 == 254) = true := beq_iff_eq.mpr c9
     have c9b1 : (t200 != 254) = false := bne_eq_false_iff_eq.mpr c9
     clear c9
     have H' := Aside0.mk H
     clear H
     go_wp2
     go_meet
     case rel => exact ⟨_, ((t201 == 255)), (by first | rfl | (simp; done) | (simp [*]; done) | (simp [wrap64]; done)), H', ⟨by first | omega | exact Nat.le_refl _⟩, by repeat (first | exact Drawn0.refl _ | apply Drawn0.step)⟩
    ·rw [if_neg c9] at H
     have c9b0 : (t200 == 254) = false := beq_eq_false_iff_ne.mpr c9
     have c9b1 : (t200 != 254) = true := bne_iff_ne.mpr c9
     have H' := Aside0.mk H
     clear H
     go_wp2
     go_meet
     case rel => exact ⟨_, (false), (by first | rfl | (simp; done) | (simp [*]; done) | (simp [wrap64]; done)), H', ⟨by first | omega | exact Nat.le_refl _⟩, by repeat (first | exact Drawn0.refl _ | apply Drawn0.step)⟩
   ·rw [if_neg c8] at H
    have c8b0 : (t199 == 0) = false := beq_eq_false_iff_ne.mpr c8
    have c8b1 : (t199 != 0) = true := bne_iff_ne.mpr c8
    have H' := Aside0.mk H
    clear H
    go_wp2
    go_meet
    case rel => exact ⟨_, (false), (by first | rfl | (simp; done) | (simp [*]; done) | (simp [wrap64]; done)), H', ⟨by first | omega | exact Nat.le_refl _⟩, by repeat (first | exact Drawn0.refl _ | apply Drawn0.step)⟩
  ·rw [if_neg c7] at H
   have c7b0 : (t198 == 0) = false := beq_eq_false_iff_ne.mpr c7
   have c7b1 : (t198 != 0) = true := bne_iff_ne.mpr c7
   (first | rw [c7b0] | (simp only [i64_w, i32_w]; rw [c7b0]) | skip)
   have H' := Aside0.mk H
   clear H
   go_wp2
   go_meet
   case rel => exact ⟨_, (false), (by first | rfl | (simp; done) | (simp [*]; done) | (simp [wrap64]; done)), H', ⟨by first | omega | exact Nat.le_refl _⟩, by repeat (first | exact Drawn0.refl _ | apply Drawn0.step)⟩
 case rest =>
  clear HC6
  try clear c1; try clear c2; try clear p2; try clear c7; try clear c7b0; try clear c7b1; try clear c8; try clear c8b0; try clear c8b1; try clear c9; try clear c9b0; try clear c9b1
  obtain ⟨kq, x16_5, rfl, HA, HJ5, ⟨mc5, rfl⟩⟩ := hcut
  cases kq with
  | zero => exact absurd HA.out (by simp [targumref1_Detect.j0])
  | succ kj5 =>
   have H := HA.out
   clear HA
   simp only [targumref1_Detect.j0] at H
   by_cases c10 : x16_5 = true
   ·subst c10
    have H1 : (some (4, 4)) = some (r1, r2) := by rw [if_pos rfl] at H; exact H
    clear H
    have H := H1
    clear H1
    simp only [Option.some.injEq, Prod.mk.injEq] at H
    obtain ⟨rfl, rfl⟩ := H
    go_wp2
    go_ret2
    exact ⟨by first | rfl | (simp; done) | (simp [*]; done) | (simp [wrap64]; done), by repeat (first | exact Drawn0.refl _ | apply Drawn0.step)⟩
   ·replace c10 := Bool.eq_false_iff.mpr c10
    subst c10
    have H1 : (if t198 = 0 then (if t199 = 0 then (if t200 = 0 then (targumref1_Detect.j1 kj5 t198 t199 t200 t201 (decide (t201 > 0))) else (targumref1_Detect.j1 kj5 t198 t199 t200 t201 false)) else (targumref1_Detect.j1 kj5 t198 t199 t200 t201 false)) else (targumref1_Detect.j1 kj5 t198 t199 t200 t201 false)) = some (r1, r2) := by rw [if_neg (show ¬ (false = true) by decide)] at H; exact H
    clear H
    have H := H1
    clear H1
    have HC11 := Aside0.mk H
    clear H
    go_upto_region 4 with (fail)
    go_cut [31] (fun v31 wc => ∃ (kq : Nat) (x31_10 : Bool), v31 = .bool x31_10 ∧ Aside0 (targumref1_Detect.j1 kq t198 t199 t200 t201 x31_10 = some (r1, r2)) ∧ Aside0 (kq ≤ kj5) ∧ Drawn0 w wc)
    case first =>
     have H := HC11.out
     clear HC11
     by_cases c12 : t198 = 0
     ·rw [if_pos c12] at H
      have c12b0 : (t198 == 0) = true := beq_iff_eq.mpr c12
      have c12b1 : (t198 != 0) = false := bne_eq_false_iff_eq.mpr c12
      clear c12
      (first | rw [c12b0] | (simp only [i64_w, i32_w]; rw [c12b0]) | skip)
      by_cases c13 : t199 = 0
      ·rw [if_pos c13] at H
       have c13b0 : (t199 == 0) = true := beq_iff_eq.mpr c13
       have c13b1 : (t199 != 0) = false := bne_eq_false_iff_eq.mpr c13
       clear c13
       by_cases c14 : t200 = 0
       ·rw [if_pos c14] at H
        have c14b0 : (t200 == 0) = true := beq_iff_eq.mpr c14
        have c14b1 : (t200 != 0) = false := bne_eq_false_iff_eq.mpr c14
        clear c14
        have H' := Aside0.mk H
        clear H
        go_wp2
        go_meet
        case rel => exact ⟨_, (decide (t201 > 0)), (by first | rfl | (simp; done) | (simp [*]; done) | (simp [wrap64]; done)), H', ⟨by have := HJ5.out; first | omega | exact Nat.le_refl _⟩, by repeat (first | exact Drawn0.refl _ | apply Drawn0.step)⟩
       ·rw [if_neg c14] at H
        have c14b0 : (t200 == 0) = false := beq_eq_false_iff_ne.mpr c14
        have c14b1 : (t200 != 0) = true := bne_iff_ne.mpr c14
        have H' := Aside0.mk H
        clear H
        go_wp2
        go_meet
        case rel => exact ⟨_, (false), (by first | rfl | (simp; done) | (simp [*]; done) | (simp [wrap64]; done)), H', ⟨by have := HJ5.out; first | omega | exact Nat.le_refl _⟩, by repeat (first | exact Drawn0.refl _ | apply Drawn0.step)⟩
      ·rw [if_neg c13] at H
       have c13b0 : (t199 == 0) = false := beq_eq_false_iff_ne.mpr c13
       have c13b1 : (t199 != 0) = true := bne_iff_ne.mpr c13
       have H' := Aside0.mk H
       clear H
       go_wp2
       go_meet
       case rel => exact ⟨_, (false), (by first | rfl | (simp; done) | (simp [*]; done) | (simp [wrap64]; done)), H', ⟨by have := HJ5.out; first | omega | exact Nat.le_refl _⟩, by repeat (first | exact Drawn0.refl _ | apply Drawn0.step)⟩
     ·rw [if_neg c12] at H
      have c12b0 : (t198 == 0) = false := beq_eq_false_iff_ne.mpr c12
      have c12b1 : (t198 != 0) = true := bne_iff_ne.mpr c12
      (first | rw [c12b0] | (simp only [i64_w, i32_w]; rw [c12b0]) | skip)
      have H' := Aside0.mk H
      clear H
      go_wp2
      go_meet
      case rel => exact ⟨_, (false), (by first | rfl | (simp; done) | (simp [*]; done) | (simp [wrap64]; done)), H', ⟨by have := HJ5.out; first | omega | exact Nat.le_refl _⟩, by repeat (first | exact Drawn0.refl _ | apply Drawn0.step)⟩
    case rest =>
     clear HC11
     try clear c1; try clear c2; try clear p2; try clear c5; try clear c7; try clear c7b0; try clear c7b1; try clear c8; try clear c8b0; try clear c8b1; try clear c9; try clear c9b0; try clear c9b1; try clear c10; try clear c12; try clear c12b0; try clear c12b1; try clear c13; try clear c13b0; try clear c13b1; try clear c14; try clear c14b0; try clear c14b1; try clear p2
     obtain ⟨kq, x31_10, rfl, HA, HJ10, ⟨mc10, rfl⟩⟩ := hcut
     cases kq with
     | zero => exact absurd HA.out (by simp [targumref1_Detect.j1])
     | succ kj10 =>
      have H := HA.out
      clear HA
      simp only [targumref1_Detect.j1] at H
      by_cases c15 : x31_10 = true
      ·subst c15
       have H1 : (some (4, 0)) = some (r1, r2) := by rw [if_pos rfl] at H; exact H
       clear H
       have H := H1
       clear H1
       simp only [Option.some.injEq, Prod.mk.injEq] at H
       obtain ⟨rfl, rfl⟩ := H
       go_wp2
       go_ret2
       exact ⟨by first | rfl | (simp; done) | (simp [*]; done) | (simp [wrap64]; done), by repeat (first | exact Drawn0.refl _ | apply Drawn0.step)⟩
      ·replace c15 := Bool.eq_false_iff.mpr c15
       subst c15
       have H1 : (if t198 = 255 then (if t199 = 254 then (if t200 = 0 then (targumref1_Detect.j2 kj10 t198 t199 t200 t201 (t201 == 0)) else (targumref1_Detect.j2 kj10 t198 t199 t200 t201 false)) else (targumref1_Detect.j2 kj10 t198 t199 t200 t201 false)) else (targumref1_Detect.j2 kj10 t198 t199 t200 t201 false)) = some (r1, r2) := by rw [if_neg (show ¬ (false = true) by decide)] at H; exact H
       clear H
       have H := H1
       clear H1
       have HC16 := Aside0.mk H
       clear H
       go_upto_region 6 with (fail)
       go_cut [46] (fun v46 wc => ∃ (kq : Nat) (x46_15 : Bool), v46 = .bool x46_15 ∧ Aside0 (targumref1_Detect.j2 kq t198 t199 t200 t201 x46_15 = some (r1, r2)) ∧ Aside0 (kq ≤ kj10) ∧ Drawn0 w wc)
       case first =>
        have H := HC16.out
        clear HC16
        by_cases c17 : t198 = 255
        ·rw [if_pos c17] at H
         have c17b0 : (t198 == 255) = true := beq_iff_eq.mpr c17
         have c17b1 : (t198 != 255) = false := bne_eq_false_iff_eq.mpr c17
         clear c17
         (first | rw [c17b0] | (simp only [i64_w, i32_w]; rw [c17b0]) | skip)
         by_cases c18 : t199 = 254
         ·rw [if_pos c18] at H
          have c18b0 : (t199 == 254) = true := beq_iff_eq.mpr c18
          have c18b1 : (t199 != 254) = false := bne_eq_false_iff_eq.mpr c18
          clear c18
          by_cases c19 : t200 = 0
          ·rw [if_pos c19] at H
           have c19b0 : (t200 == 0) = true := beq_iff_eq.mpr c19
           have c19b1 : (t200 != 0) = false := bne_eq_false_iff_eq.mpr c19
           clear c19
           have H' := Aside0.mk H
           clear H
           go_wp2
           go_meet
           case rel => exact ⟨_, ((t201 == 0)), (by first | rfl | (simp; done) | (simp [*]; done) | (simp [wrap64]; done)), H', ⟨by have := HJ5.out; have := HJ10.out; first | omega | exact Nat.le_refl _⟩, by repeat (first | exact Drawn0.refl _ | apply Drawn0.step)⟩
          ·rw [if_neg c19] at H
           have c19b0 : (t200 == 0) = false := beq_eq_false_iff_ne.mpr c19
           have c19b1 : (t200 != 0) = true := bne_iff_ne.mpr c19
           have H' := Aside0.mk H
           clear H
           go_wp2
           go_meet
           case rel => exact ⟨_, (false), (by first | rfl | (simp; done) | (simp [*]; done) | (simp [wrap64]; done)), H', ⟨by have := HJ5.out; have := HJ10.out; first | omega | exact Nat.le_refl _⟩, by repeat (first | exact Drawn0.refl _ | apply Drawn0.step)⟩
         ·rw [if_neg c18] at H
          have c18b0 : (t199 == 254) = false := beq_eq_false_iff_ne.mpr c18
          have c18b1 : (t199 != 254) = true := bne_iff_ne.mpr c18
          have H' := Aside0.mk H
          clear H
          go_wp2
          go_meet
          case rel => exact ⟨_, (false), (by first | rfl | (simp; done) | (simp [*]; done) | (simp [wrap64]; done)), H', ⟨by have := HJ5.out; have := HJ10.out; first | omega | exact Nat.le_refl _⟩, by repeat (first | exact Drawn0.refl _ | apply Drawn0.step)⟩
        ·rw [if_neg c17] at H
         have c17b0 : (t198 == 255) = false := beq_eq_false_iff_ne.mpr c17
         have c17b1 : (t198 != 255) = true := bne_iff_ne.mpr c17
         (first | rw [c17b0] | (simp only [i64_w, i32_w]; rw [c17b0]) | skip)
         have H' := Aside0.mk H
         clear H
         go_wp2
         go_meet
         case rel => exact ⟨_, (false), (by first | rfl | (simp; done) | (simp [*]; done) | (simp [wrap64]; done)), H', ⟨by have := HJ5.out; have := HJ10.out; first | omega | exact Nat.le_refl _⟩, by repeat (first | exact Drawn0.refl _ | apply Drawn0.step)⟩
       case rest =>
        clear HC16
        try clear c1; try clear c2; try clear p2; try clear c5; try clear c7; try clear c7b0; try clear c7b1; try clear c8; try clear c8b0; try clear c8b1; try clear c9; try clear c9b0; try clear c9b1; try clear c10; try clear c12; try clear c12b0; try clear c12b1; try clear c13; try clear c13b0; try clear c13b1; try clear c14; try clear c14b0; try clear c14b1; try clear c15; try clear c17; try clear c17b0; try clear c17b1; try clear c18; try clear c18b0; try clear c18b1; try clear c19; try clear c19b0; try clear c19b1; try clear p2
        obtain ⟨kq, x46_15, rfl, HA, HJ15, ⟨mc15, rfl⟩⟩ := hcut
        cases kq with
        | zero => exact absurd HA.out (by simp [targumref1_Detect.j2])
        | succ kj15 =>
         have H := HA.out
         clear HA
         simp only [targumref1_Detect.j2] at H
         by_cases c20 : x46_15 = true
         ·subst c20
          have H1 : (some (5, 4)) = some (r1, r2) := by rw [if_pos rfl] at H; exact H
          clear H
          have H := H1
          clear H1
          simp only [Option.some.injEq, Prod.mk.injEq] at H
          obtain ⟨rfl, rfl⟩ := H
          go_wp2
          go_ret2
          exact ⟨by first | rfl | (simp; done) | (simp [*]; done) | (simp [wrap64]; done), by repeat (first | exact Drawn0.refl _ | apply Drawn0.step)⟩
         ·replace c20 := Bool.eq_false_iff.mpr c20
          subst c20
          have H1 : (if t198 > 0 then (if t199 = 0 then (if t200 = 0 then (targumref1_Detect.j3 kj15 t198 t199 t200 (t201 == 0)) else (targumref1_Detect.j3 kj15 t198 t199 t200 false)) else (targumref1_Detect.j3 kj15 t198 t199 t200 false)) else (targumref1_Detect.j3 kj15 t198 t199 t200 false)) = some (r1, r2) := by rw [if_neg (show ¬ (false = true) by decide)] at H; exact H
          clear H
          have H := H1
          clear H1
          have HC21 := Aside0.mk H
          clear H
          go_upto_region 8 with (fail)
          go_cut [61] (fun v61 wc => ∃ (kq : Nat) (x61_20 : Bool), v61 = .bool x61_20 ∧ Aside0 (targumref1_Detect.j3 kq t198 t199 t200 x61_20 = some (r1, r2)) ∧ Aside0 (kq ≤ kj15) ∧ Drawn0 w wc)
          case first =>
           have H := HC21.out
           clear HC21
           by_cases c22 : t198 > 0
           ·rw [if_pos c22] at H
            have c22b0 : decide (0 < t198) = true := decide_eq_true c22
            clear c22
            (first | rw [c22b0] | (simp only [i64_w, i32_w]; rw [c22b0]) | skip)
            by_cases c23 : t199 = 0
            ·rw [if_pos c23] at H
             have c23b0 : (t199 == 0) = true := beq_iff_eq.mpr c23
             have c23b1 : (t199 != 0) = false := bne_eq_false_iff_eq.mpr c23
             clear c23
             by_cases c24 : t200 = 0
             ·rw [if_pos c24] at H
              have c24b0 : (t200 == 0) = true := beq_iff_eq.mpr c24
              have c24b1 : (t200 != 0) = false := bne_eq_false_iff_eq.mpr c24
              clear c24
              have H' := Aside0.mk H
              clear H
              go_wp2
              go_meet
              case rel => exact ⟨_, ((t201 == 0)), (by first | rfl | (simp; done) | (simp [*]; done) | (simp [wrap64]; done)), H', ⟨by have := HJ5.out; have := HJ10.out; have := HJ15.out; first | omega | exact Nat.le_refl _⟩, by repeat (first | exact Drawn0.refl _ | apply Drawn0.step)⟩
             ·rw [if_neg c24] at H
              have c24b0 : (t200 == 0) = false := beq_eq_false_iff_ne.mpr c24
              have c24b1 : (t200 != 0) = true := bne_iff_ne.mpr c24
              have H' := Aside0.mk H
              clear H
              go_wp2
              go_meet
              case rel => exact ⟨_, (false), (by first | rfl | (simp; done) | (simp [*]; done) | (simp [wrap64]; done)), H', ⟨by have := HJ5.out; have := HJ10.out; have := HJ15.out; first | omega | exact Nat.le_refl _⟩, by repeat (first | exact Drawn0.refl _ | apply Drawn0.step)⟩
            ·rw [if_neg c23] at H
             have c23b0 : (t199 == 0) = false := beq_eq_false_iff_ne.mpr c23
             have c23b1 : (t199 != 0) = true := bne_iff_ne.mpr c23
             have H' := Aside0.mk H
             clear H
             go_wp2
             go_meet
             case rel => exact ⟨_, (false), (by first | rfl | (simp; done) | (simp [*]; done) | (simp [wrap64]; done)), H', ⟨by have := HJ5.out; have := HJ10.out; have := HJ15.out; first | omega | exact Nat.le_refl _⟩, by repeat (first | exact Drawn0.refl _ | apply Drawn0.step)⟩
           ·rw [if_neg c22] at H
            have c22b0 : decide (0 < t198) = false := decide_eq_false c22
            clear c22
            (first | rw [c22b0] | (simp only [i64_w, i32_w]; rw [c22b0]) | skip)
            have H' := Aside0.mk H
            clear H
            go_wp2
            go_meet
            case rel => exact ⟨_, (false), (by first | rfl | (simp; done) | (simp [*]; done) | (simp [wrap64]; done)), H', ⟨by have := HJ5.out; have := HJ10.out; have := HJ15.out; first | omega | exact Nat.le_refl _⟩, by repeat (first | exact Drawn0.refl _ | apply Drawn0.step)⟩
          case rest =>
           clear HC21
           try clear c1; try clear c2; try clear p2; try clear c5; try clear c7; try clear c7b0; try clear c7b1; try clear c8; try clear c8b0; try clear c8b1; try clear c9; try clear c9b0; try clear c9b1; try clear c10; try clear c12; try clear c12b0; try clear c12b1; try clear c13; try clear c13b0; try clear c13b1; try clear c14; try clear c14b0; try clear c14b1; try clear c15; try clear c17; try clear c17b0; try clear c17b1; try clear c18; try clear c18b0; try clear c18b1; try clear c19; try clear c19b0; try clear c19b1; try clear c20; try clear c22; try clear c22b0; try clear c23; try clear c23b0; try clear c23b1; try clear c24; try clear c24b0; try clear c24b1; try clear p2
           obtain ⟨kq, x61_20, rfl, HA, HJ20, ⟨mc20, rfl⟩⟩ := hcut
           cases kq with
           | zero => exact absurd HA.out (by simp [targumref1_Detect.j3])
           | succ kj20 =>
            have H := HA.out
            clear HA
            simp only [targumref1_Detect.j3] at H
            by_cases c25 : x61_20 = true
            ·subst c25
             have H1 : (some (5, 0)) = some (r1, r2) := by rw [if_pos rfl] at H; exact H
             clear H
             have H := H1
             clear H1
             simp only [Option.some.injEq, Prod.mk.injEq] at H
             obtain ⟨rfl, rfl⟩ := H
             go_wp2
             go_ret2
             exact ⟨by first | rfl | (simp; done) | (simp [*]; done) | (simp [wrap64]; done), by repeat (first | exact Drawn0.refl _ | apply Drawn0.step)⟩
            ·replace c25 := Bool.eq_false_iff.mpr c25
             subst c25
             have H1 : (if t198 = 254 then (targumref1_Detect.j4 kj20 t198 t199 t200 (t199 == 255)) else (targumref1_Detect.j4 kj20 t198 t199 t200 false)) = some (r1, r2) := by rw [if_neg (show ¬ (false = true) by decide)] at H; exact H
             clear H
             have H := H1
             clear H1
             have HC26 := Aside0.mk H
             clear H
             go_upto_region 10 with (fail)
             go_cut [76] (fun v76 wc => ∃ (kq : Nat) (x76_25 : Bool), v76 = .bool x76_25 ∧ Aside0 (targumref1_Detect.j4 kq t198 t199 t200 x76_25 = some (r1, r2)) ∧ Aside0 (kq ≤ kj20) ∧ Drawn0 w wc)
             case first =>
              have H := HC26.out
              clear HC26
              by_cases c27 : t198 = 254
              ·rw [if_pos c27] at H
               have c27b0 : (t198 == 254) = true := beq_iff_eq.mpr c27
               have c27b1 : (t198 != 254) = false := bne_eq_false_iff_eq.mpr c27
               clear c27
               (first | rw [c27b0] | (simp only [i64_w, i32_w]; rw [c27b0]) | skip)
               have H' := Aside0.mk H
               clear H
               go_wp2
               go_meet
               case rel => exact ⟨_, ((t199 == 255)), (by first | rfl | (simp; done) | (simp [*]; done) | (simp [wrap64]; done)), H', ⟨by have := HJ5.out; have := HJ10.out; have := HJ15.out; have := HJ20.out; first | omega | exact Nat.le_refl _⟩, by repeat (first | exact Drawn0.refl _ | apply Drawn0.step)⟩
              ·rw [if_neg c27] at H
               have c27b0 : (t198 == 254) = false := beq_eq_false_iff_ne.mpr c27
               have c27b1 : (t198 != 254) = true := bne_iff_ne.mpr c27
               (first | rw [c27b0] | (simp only [i64_w, i32_w]; rw [c27b0]) | skip)
               have H' := Aside0.mk H
               clear H
               go_wp2
               go_meet
               case rel => exact ⟨_, (false), (by first | rfl | (simp; done) | (simp [*]; done) | (simp [wrap64]; done)), H', ⟨by have := HJ5.out; have := HJ10.out; have := HJ15.out; have := HJ20.out; first | omega | exact Nat.le_refl _⟩, by repeat (first | exact Drawn0.refl _ | apply Drawn0.step)⟩
             case rest =>
              clear HC26
              try clear c1; try clear c2; try clear p2; try clear c5; try clear c7; try clear c7b0; try clear c7b1; try clear c8; try clear c8b0; try clear c8b1; try clear c9; try clear c9b0; try clear c9b1; try clear c10; try clear c12; try clear c12b0; try clear c12b1; try clear c13; try clear c13b0; try clear c13b1; try clear c14; try clear c14b0; try clear c14b1; try clear c15; try clear c17; try clear c17b0; try clear c17b1; try clear c18; try clear c18b0; try clear c18b1; try clear c19; try clear c19b0; try clear c19b1; try clear c20; try clear c22; try clear c22b0; try clear c23; try clear c23b0; try clear c23b1; try clear c24; try clear c24b0; try clear c24b1; try clear c25; try clear c26; try clear c27; try clear c27b0; try clear c27b1; try clear p2
              obtain ⟨kq, x76_25, rfl, HA, HJ25, ⟨mc25, rfl⟩⟩ := hcut
              cases kq with
              | zero => exact absurd HA.out (by simp [targumref1_Detect.j4])
              | succ kj25 =>
               have H := HA.out
               clear HA
               simp only [targumref1_Detect.j4] at H
               by_cases c28 : x76_25 = true
               ·subst c28
                have H1 : (some (2, 2)) = some (r1, r2) := by rw [if_pos rfl] at H; exact H
                clear H
                have H := H1
                clear H1
                simp only [Option.some.injEq, Prod.mk.injEq] at H
                obtain ⟨rfl, rfl⟩ := H
                go_wp2
                go_ret2
                exact ⟨by first | rfl | (simp; done) | (simp [*]; done) | (simp [wrap64]; done), by repeat (first | exact Drawn0.refl _ | apply Drawn0.step)⟩
               ·replace c28 := Bool.eq_false_iff.mpr c28
                subst c28
                have H1 : (if t198 = 0 then (targumref1_Detect.j5 kj25 t198 t199 t200 (decide (t199 > 0))) else (targumref1_Detect.j5 kj25 t198 t199 t200 false)) = some (r1, r2) := by rw [if_neg (show ¬ (false = true) by decide)] at H; exact H
                clear H
                have H := H1
                clear H1
                have HC29 := Aside0.mk H
                clear H
                go_upto_region 12 with (fail)
                go_cut [83] (fun v83 wc => ∃ (kq : Nat) (x83_28 : Bool), v83 = .bool x83_28 ∧ Aside0 (targumref1_Detect.j5 kq t198 t199 t200 x83_28 = some (r1, r2)) ∧ Aside0 (kq ≤ kj25) ∧ Drawn0 w wc)
                case first =>
                 have H := HC29.out
                 clear HC29
                 by_cases c30 : t198 = 0
                 ·rw [if_pos c30] at H
                  have c30b0 : (t198 == 0) = true := beq_iff_eq.mpr c30
                  have c30b1 : (t198 != 0) = false := bne_eq_false_iff_eq.mpr c30
                  clear c30
                  (first | rw [c30b0] | (simp only [i64_w, i32_w]; rw [c30b0]) | skip)
                  have H' := Aside0.mk H
                  clear H
                  go_wp2
                  go_meet
                  case rel => exact ⟨_, (decide (t199 > 0)), (by first | rfl | (simp; done) | (simp [*]; done) | (simp [wrap64]; done)), H', ⟨by have := HJ5.out; have := HJ10.out; have := HJ15.out; have := HJ20.out; have := HJ25.out; first | omega | exact Nat.le_refl _⟩, by repeat (first | exact Drawn0.refl _ | apply Drawn0.step)⟩
                 ·rw [if_neg c30] at H
                  have c30b0 : (t198 == 0) = false := beq_eq_false_iff_ne.mpr c30
                  have c30b1 : (t198 != 0) = true := bne_iff_ne.mpr c30
                  (first | rw [c30b0] | (simp only [i64_w, i32_w]; rw [c30b0]) | skip)
                  have H' := Aside0.mk H
                  clear H
                  go_wp2
                  go_meet
                  case rel => exact ⟨_, (false), (by first | rfl | (simp; done) | (simp [*]; done) | (simp [wrap64]; done)), H', ⟨by have := HJ5.out; have := HJ10.out; have := HJ15.out; have := HJ20.out; have := HJ25.out; first | omega | exact Nat.le_refl _⟩, by repeat (first | exact Drawn0.refl _ | apply Drawn0.step)⟩
                case rest =>
                 clear HC29
                 try clear c1; try clear c2; try clear p2; try clear c3; try clear c5; try clear c7; try clear c7b0; try clear c7b1; try clear c8; try clear c8b0; try clear c8b1; try clear c9; try clear c9b0; try clear c9b1; try clear c10; try clear c12; try clear c12b0; try clear c12b1; try clear c13; try clear c13b0; try clear c13b1; try clear c14; try clear c14b0; try clear c14b1; try clear c15; try clear c17; try clear c17b0; try clear c17b1; try clear c18; try clear c18b0; try clear c18b1; try clear c19; try clear c19b0; try clear c19b1; try clear c20; try clear c22; try clear c22b0; try clear c23; try clear c23b0; try clear c23b1; try clear c24; try clear c24b0; try clear c24b1; try clear c25; try clear c26; try clear c27; try clear c27b0; try clear c27b1; try clear c28; try clear c30; try clear c30b0; try clear c30b1; try clear p2
                 obtain ⟨kq, x83_28, rfl, HA, HJ28, ⟨mc28, rfl⟩⟩ := hcut
                 cases kq with
                 | zero => exact absurd HA.out (by simp [targumref1_Detect.j5])
                 | succ kj28 =>
                  have H := HA.out
                  clear HA
                  simp only [targumref1_Detect.j5] at H
                  by_cases c31 : x83_28 = true
                  ·subst c31
                   have H1 : (some (2, 0)) = some (r1, r2) := by rw [if_pos rfl] at H; exact H
                   clear H
                   have H := H1
                   clear H1
                   simp only [Option.some.injEq, Prod.mk.injEq] at H
                   obtain ⟨rfl, rfl⟩ := H
                   go_wp2
                   go_ret2
                   exact ⟨by first | rfl | (simp; done) | (simp [*]; done) | (simp [wrap64]; done), by repeat (first | exact Drawn0.refl _ | apply Drawn0.step)⟩
                  ·replace c31 := Bool.eq_false_iff.mpr c31
                   subst c31
                   have H1 : (if t198 = 255 then (targumref1_Detect.j6 kj28 t198 t199 t200 (t199 == 254)) else (targumref1_Detect.j6 kj28 t198 t199 t200 false)) = some (r1, r2) := by rw [if_neg (show ¬ (false = true) by decide)] at H; exact H
                   clear H
                   have H := H1
                   clear H1
                   have HC32 := Aside0.mk H
                   clear H
                   go_upto_region 14 with (fail)
                   go_cut [90] (fun v90 wc => ∃ (kq : Nat) (x90_31 : Bool), v90 = .bool x90_31 ∧ Aside0 (targumref1_Detect.j6 kq t198 t199 t200 x90_31 = some (r1, r2)) ∧ Aside0 (kq ≤ kj28) ∧ Drawn0 w wc)
                   case first =>
                    have H := HC32.out
                    clear HC32
                    by_cases c33 : t198 = 255
                    ·rw [if_pos c33] at H
                     have c33b0 : (t198 == 255) = true := beq_iff_eq.mpr c33
                     have c33b1 : (t198 != 255) = false := bne_eq_false_iff_eq.mpr c33
                     clear c33
                     (first | rw [c33b0] | (simp only [i64_w, i32_w]; rw [c33b0]) | skip)
                     have H' := Aside0.mk H
                     clear H
                     go_wp2
                     go_meet
                     case rel => exact ⟨_, ((t199 == 254)), (by first | rfl | (simp; done) | (simp [*]; done) | (simp [wrap64]; done)), H', ⟨by have := HJ5.out; have := HJ10.out; have := HJ15.out; have := HJ20.out; have := HJ25.out; have := HJ28.out; first | omega | exact Nat.le_refl _⟩, by repeat (first | exact Drawn0.refl _ | apply Drawn0.step)⟩
                    ·rw [if_neg c33] at H
                     have c33b0 : (t198 == 255) = false := beq_eq_false_iff_ne.mpr c33
                     have c33b1 : (t198 != 255) = true := bne_iff_ne.mpr c33
                     (first | rw [c33b0] | (simp only [i64_w, i32_w]; rw [c33b0]) | skip)
                     have H' := Aside0.mk H
                     clear H
                     go_wp2
                     go_meet
                     case rel => exact ⟨_, (false), (by first | rfl | (simp; done) | (simp [*]; done) | (simp [wrap64]; done)), H', ⟨by have := HJ5.out; have := HJ10.out; have := HJ15.out; have := HJ20.out; have := HJ25.out; have := HJ28.out; first | omega | exact Nat.le_refl _⟩, by repeat (first | exact Drawn0.refl _ | apply Drawn0.step)⟩
                   case rest =>
                    clear HC32
                    try clear c1; try clear c2; try clear p2; try clear c3; try clear c5; try clear c7; try clear c7b0; try clear c7b1; try clear c8; try clear c8b0; try clear c8b1; try clear c9; try clear c9b0; try clear c9b1; try clear c10; try clear c12; try clear c12b0; try clear c12b1; try clear c13; try clear c13b0; try clear c13b1; try clear c14; try clear c14b0; try clear c14b1; try clear c15; try clear c17; try clear c17b0; try clear c17b1; try clear c18; try clear c18b0; try clear c18b1; try clear c19; try clear c19b0; try clear c19b1; try clear c20; try clear c22; try clear c22b0; try clear c23; try clear c23b0; try clear c23b1; try clear c24; try clear c24b0; try clear c24b1; try clear c25; try clear c26; try clear c27; try clear c27b0; try clear c27b1; try clear c28; try clear c30; try clear c30b0; try clear c30b1; try clear c31; try clear c33; try clear c33b0; try clear c33b1; try clear p2
                    obtain ⟨kq, x90_31, rfl, HA, HJ31, ⟨mc31, rfl⟩⟩ := hcut
                    cases kq with
                    | zero => exact absurd HA.out (by simp [targumref1_Detect.j6])
                    | succ kj31 =>
                     have H := HA.out
                     clear HA
                     simp only [targumref1_Detect.j6] at H
                     by_cases c34 : x90_31 = true
                     ·subst c34
                      have H1 : (some (3, 2)) = some (r1, r2) := by rw [if_pos rfl] at H; exact H
                      clear H
                      have H := H1
                      clear H1
                      simp only [Option.some.injEq, Prod.mk.injEq] at H
                      obtain ⟨rfl, rfl⟩ := H
                      go_wp2
                      go_ret2
                      exact ⟨by first | rfl | (simp; done) | (simp [*]; done) | (simp [wrap64]; done), by repeat (first | exact Drawn0.refl _ | apply Drawn0.step)⟩
                     ·replace c34 := Bool.eq_false_iff.mpr c34
                      subst c34
                      have H1 : (if t198 > 0 then (targumref1_Detect.j7 kj31 t198 t199 t200 (t199 == 0)) else (targumref1_Detect.j7 kj31 t198 t199 t200 false)) = some (r1, r2) := by rw [if_neg (show ¬ (false = true) by decide)] at H; exact H
                      clear H
                      have H := H1
                      clear H1
                      have HC35 := Aside0.mk H
                      clear H
                      go_upto_region 16 with (fail)
                      go_cut [97] (fun v97 wc => ∃ (kq : Nat) (x97_34 : Bool), v97 = .bool x97_34 ∧ Aside0 (targumref1_Detect.j7 kq t198 t199 t200 x97_34 = some (r1, r2)) ∧ Aside0 (kq ≤ kj31) ∧ Drawn0 w wc)
                      case first =>
                       have H := HC35.out
                       clear HC35
                       by_cases c36 : t198 > 0
                       ·rw [if_pos c36] at H
                        have c36b0 : decide (0 < t198) = true := decide_eq_true c36
                        clear c36
                        (first | rw [c36b0] | (simp only [i64_w, i32_w]; rw [c36b0]) | skip)
                        have H' := Aside0.mk H
                        clear H
                        go_wp2
                        go_meet
                        case rel => exact ⟨_, ((t199 == 0)), (by first | rfl | (simp; done) | (simp [*]; done) | (simp [wrap64]; done)), H', ⟨by have := HJ5.out; have := HJ10.out; have := HJ15.out; have := HJ20.out; have := HJ25.out; have := HJ28.out; have := HJ31.out; first | omega | exact Nat.le_refl _⟩, by repeat (first | exact Drawn0.refl _ | apply Drawn0.step)⟩
                       ·rw [if_neg c36] at H
                        have c36b0 : decide (0 < t198) = false := decide_eq_false c36
                        clear c36
                        (first | rw [c36b0] | (simp only [i64_w, i32_w]; rw [c36b0]) | skip)
                        have H' := Aside0.mk H
                        clear H
                        go_wp2
                        go_meet
                        case rel => exact ⟨_, (false), (by first | rfl | (simp; done) | (simp [*]; done) | (simp [wrap64]; done)), H', ⟨by have := HJ5.out; have := HJ10.out; have := HJ15.out; have := HJ20.out; have := HJ25.out; have := HJ28.out; have := HJ31.out; first | omega | exact Nat.le_refl _⟩, by repeat (first | exact Drawn0.refl _ | apply Drawn0.step)⟩
                      case rest =>
                       clear HC35
                       try clear c1; try clear c2; try clear p2; try clear c3; try clear c5; try clear c7; try clear c7b0; try clear c7b1; try clear c8; try clear c8b0; try clear c8b1; try clear c9; try clear c9b0; try clear c9b1; try clear c10; try clear c12; try clear c12b0; try clear c12b1; try clear c13; try clear c13b0; try clear c13b1; try clear c14; try clear c14b0; try clear c14b1; try clear c15; try clear c17; try clear c17b0; try clear c17b1; try clear c18; try clear c18b0; try clear c18b1; try clear c19; try clear c19b0; try clear c19b1; try clear c20; try clear c22; try clear c22b0; try clear c23; try clear c23b0; try clear c23b1; try clear c24; try clear c24b0; try clear c24b1; try clear c25; try clear c26; try clear c27; try clear c27b0; try clear c27b1; try clear c28; try clear c30; try clear c30b0; try clear c30b1; try clear c31; try clear c33; try clear c33b0; try clear c33b1; try clear c34; try clear c36; try clear c36b0; try clear p2
                       obtain ⟨kq, x97_34, rfl, HA, HJ34, ⟨mc34, rfl⟩⟩ := hcut
                       cases kq with
                       | zero => exact absurd HA.out (by simp [targumref1_Detect.j7])
                       | succ kj34 =>
                        have H := HA.out
                        clear HA
                        simp only [targumref1_Detect.j7] at H
                        by_cases c37 : x97_34 = true
                        ·subst c37
                         have H1 : (some (3, 0)) = some (r1, r2) := by rw [if_pos rfl] at H; exact H
                         clear H
                         have H := H1
                         clear H1
                         simp only [Option.some.injEq, Prod.mk.injEq] at H
                         obtain ⟨rfl, rfl⟩ := H
                         go_wp2
                         go_ret2
                         exact ⟨by first | rfl | (simp; done) | (simp [*]; done) | (simp [wrap64]; done), by repeat (first | exact Drawn0.refl _ | apply Drawn0.step)⟩
                        ·replace c37 := Bool.eq_false_iff.mpr c37
                         subst c37
                         have H1 : (if t198 = 239 then (if t199 = 187 then (if t200 = 191 then (some (1, 3)) else (some (1, 0))) else (some (1, 0))) else (some (1, 0))) = some (r1, r2) := by rw [if_neg (show ¬ (false = true) by decide)] at H; exact H
                         clear H
                         have H := H1
                         clear H1
                         by_cases c38 : t198 = 239
                         ·rw [if_pos c38] at H
                          have c38b0 : (t198 == 239) = true := beq_iff_eq.mpr c38
                          have c38b1 : (t198 != 239) = false := bne_eq_false_iff_eq.mpr c38
                          clear c38
                          by_cases c39 : t199 = 187
                          ·rw [if_pos c39] at H
                           have c39b0 : (t199 == 187) = true := beq_iff_eq.mpr c39
                           have c39b1 : (t199 != 187) = false := bne_eq_false_iff_eq.mpr c39
                           clear c39
                           by_cases c40 : t200 = 191
                           ·rw [if_pos c40] at H
                            have c40b0 : (t200 == 191) = true := beq_iff_eq.mpr c40
                            have c40b1 : (t200 != 191) = false := bne_eq_false_iff_eq.mpr c40
                            clear c40
                            simp only [Option.some.injEq, Prod.mk.injEq] at H
                            obtain ⟨rfl, rfl⟩ := H
                            go_wp2
                            go_ret2
                            exact ⟨by first | rfl | (simp; done) | (simp [*]; done) | (simp [wrap64]; done), by repeat (first | exact Drawn0.refl _ | apply Drawn0.step)⟩
                           ·rw [if_neg c40] at H
                            have c40b0 : (t200 == 191) = false := beq_eq_false_iff_ne.mpr c40
                            have c40b1 : (t200 != 191) = true := bne_iff_ne.mpr c40
                            simp only [Option.some.injEq, Prod.mk.injEq] at H
                            obtain ⟨rfl, rfl⟩ := H
                            go_wp2
                            go_ret2
                            exact ⟨by first | rfl | (simp; done) | (simp [*]; done) | (simp [wrap64]; done), by repeat (first | exact Drawn0.refl _ | apply Drawn0.step)⟩
                          ·rw [if_neg c39] at H
                           have c39b0 : (t199 == 187) = false := beq_eq_false_iff_ne.mpr c39
                           have c39b1 : (t199 != 187) = true := bne_iff_ne.mpr c39
                           simp only [Option.some.injEq, Prod.mk.injEq] at H
                           obtain ⟨rfl, rfl⟩ := H
                           go_wp2
                           go_ret2
                           exact ⟨by first | rfl | (simp; done) | (simp [*]; done) | (simp [wrap64]; done), by repeat (first | exact Drawn0.refl _ | apply Drawn0.step)⟩
                         ·rw [if_neg c38] at H
                          have c38b0 : (t198 == 239) = false := beq_eq_false_iff_ne.mpr c38
                          have c38b1 : (t198 != 239) = true := bne_iff_ne.mpr c38
                          simp only [Option.some.injEq, Prod.mk.injEq] at H
                          obtain ⟨rfl, rfl⟩ := H
                          go_wp2
                          go_ret2
                          exact ⟨by first | rfl | (simp; done) | (simp [*]; done) | (simp [wrap64]; done), by repeat (first | exact Drawn0.refl _ | apply Drawn0.step)⟩

end Go.Proofs.YtmpdggphhhljhaaDoor.PT
