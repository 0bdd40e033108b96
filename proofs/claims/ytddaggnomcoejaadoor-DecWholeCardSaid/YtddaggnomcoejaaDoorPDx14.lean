/- Written by this session's own program (xprint, made over the kit's print): Lean functions with the same answers as the Go functions, and the proofs of that. Not trusted: Lean checks it. -/
import Derived.Test.YtddaggnomcoejaaDoorPDx0
import Derived.Test.YtddaggnomcoejaaDoorPDx1
import Derived.Test.YtddaggnomcoejaaDoorPDx3
import Derived.Test.YtddaggnomcoejaaDoorPDx4
import Derived.Test.YtddaggnomcoejaaDoorPDx5
import Derived.Test.YtddaggnomcoejaaDoorPDx6
import Derived.Test.YtddaggnomcoejaaDoorPDx11
import Derived.Test.YtddaggnomcoejaaDoorPDx13
import Derived.Test.YtddaggnomcoejaaDoorXW
namespace Go.Proofs.YtddaggnomcoejaaDoor.PD
open Go.Proofs.YtddaggnomcoejaaDoor.XW Go.RowKit Go.Proofs.YtddaggnomcoejaaDoorW.PrintWords Go.Proofs.YtddaggnomcoejaaDoorW.PrintLast Go.Proofs.YtddaggnomcoejaaDoorW.PrintMore
attribute [local go_sem] max2_int min2_int max_two min_two max_three min_three max_four min_four   -- for this text's walks alone
set_option linter.unusedVariables false
set_option linter.unusedSimpArgs false

attribute [local go_sem high] eqA40
/-! ### targumlaw5_DecWhole: function 12 -/
mutual
def targumlaw5_DecWhole.j0 : Nat → ByteArray → ByteArray → Bool → Bool → Option (Bool)
 | 0, _, _, _, _ => none
 | k + 1, x0, x1, x2, x32 => if x32 = true then (some true) else ((targumlaw5_digits.f k x0).bind fun t327 => ((dec_Make.f k x2 t327 (⟨#[]⟩ : ByteArray) (⟨#[48]⟩ : ByteArray)).bind fun bt328 => ((targumlaw5_digits.f k x1).bind fun t334 => ((dec_Make.f k x2 t334 (⟨#[]⟩ : ByteArray) (⟨#[48]⟩ : ByteArray)).bind fun bt335 => (if bt328.2.2.2.2 = true then (targumlaw5_DecWhole.j1 k x0 x1 (!bt335.2.2.2.2) bt328.1 bt328.2.1 bt328.2.2.1 bt328.2.2.2.1 bt335.1 bt335.2.1 bt335.2.2.1 bt335.2.2.2.1) else (targumlaw5_DecWhole.j1 k x0 x1 true bt328.1 bt328.2.1 bt328.2.2.1 bt328.2.2.2.1 bt335.1 bt335.2.1 bt335.2.2.1 bt335.2.2.2.1))))))
def targumlaw5_DecWhole.j1 : Nat → ByteArray → ByteArray → Bool → Int → Bool → ByteArray → ByteArray → Int → Bool → ByteArray → ByteArray → Option (Bool)
 | 0, _, _, _, _, _, _, _, _, _, _, _ => none
 | k + 1, x0, x1, x52, x334000, x334001, x334002, x334003, x341000, x341001, x341002, x341003 => if x52 = true then (some false) else (targumlaw5_DecWhole.l0 k x0 x1 x334002 (⟨#[48]⟩ : ByteArray) x334000 x334001 x334002 x334003 x341000 x341001 x341002 x341003)
def targumlaw5_DecWhole.j3 : Nat → ByteArray → ByteArray → ByteArray → Int → Bool → ByteArray → ByteArray → Int → Bool → ByteArray → ByteArray → Option (Bool)
 | 0, _, _, _, _, _, _, _, _, _, _, _ => none
 | k + 1, x0, x1, x11, x334000, x334001, x334002, x334003, x341000, x341001, x341002, x341003 => (targumlaw5_digits.f k x0).bind fun t343 => ((targumref4_Norm.f k false t343).bind fun t344 => (if x11.toList = t344.toList then ((targumlaw5_digits.f k x0).bind fun t345 => ((targumref4_Norm.f k false t345).bind fun t346 => ((targumlaw5_digits.f k x1).bind fun t347 => ((targumref4_Norm.f k false t347).bind fun t348 => (some ((x334000 == x341000 && (x334001 == x341001 && (x334002.toList == x341002.toList && (x334003.toList == x341003.toList)))) == (t346.toList == t348.toList))))))) else (some false)))
def targumlaw5_DecWhole.l0 : Nat → ByteArray → ByteArray → ByteArray → ByteArray → Int → Bool → ByteArray → ByteArray → Int → Bool → ByteArray → ByteArray → Option (Bool)
 | 0, _, _, _, _, _, _, _, _, _, _, _, _ => none
 | k + 1, x0, x1, x11, x12, x334000, x334001, x334002, x334003, x341000, x341001, x341002, x341003 => if x334002.toList = ([48] : List UInt8) then (targumlaw5_DecWhole.j3 k x0 x1 x11 x334000 x334001 x334002 x334003 x341000 x341001 x341002 x341003) else ((targumref4_Compare.f k x12 x334003).bind fun t341 => (if t341 < 0 then (if x11.size + 1 ≤ 9223372036854775807 then ((targumref4_Add.f k x12 1).bind fun t342 => (targumlaw5_DecWhole.l0 k x0 x1 (x11 ++ (⟨#[48]⟩ : ByteArray)) t342 x334000 x334001 x334002 x334003 x341000 x341001 x341002 x341003)) else (none)) else (targumlaw5_DecWhole.j3 k x0 x1 x11 x334000 x334001 x334002 x334003 x341000 x341001 x341002 x341003)))
end
def targumlaw5_DecWhole.f (k : Nat) (a0 : ByteArray) (a1 : ByteArray) (a2 : Bool) : Option (Bool) := (targumlaw5_known.f k).bind fun t326 => (if t326 = true then (if (a0.size : Int) < 1 then (targumlaw5_DecWhole.j0 k a0 a1 a2 true) else (if (a1.size : Int) < 1 then (targumlaw5_DecWhole.j0 k a0 a1 a2 true) else (if (a0.size : Int) > 40 then (targumlaw5_DecWhole.j0 k a0 a1 a2 true) else (targumlaw5_DecWhole.j0 k a0 a1 a2 (decide ((a1.size : Int) > 40)))))) else (some false))
theorem targumlaw5_DecWhole.mono_l : ∀ k, (∀ y0 y1 y2 y3, LeO (targumlaw5_DecWhole.j0 k y0 y1 y2 y3) (targumlaw5_DecWhole.j0 (k + 1) y0 y1 y2 y3)) ∧ (∀ y0 y1 y2 y3 y4 y5 y6 y7 y8 y9 y10, LeO (targumlaw5_DecWhole.j1 k y0 y1 y2 y3 y4 y5 y6 y7 y8 y9 y10) (targumlaw5_DecWhole.j1 (k + 1) y0 y1 y2 y3 y4 y5 y6 y7 y8 y9 y10)) ∧ (∀ y0 y1 y2 y3 y4 y5 y6 y7 y8 y9 y10, LeO (targumlaw5_DecWhole.j3 k y0 y1 y2 y3 y4 y5 y6 y7 y8 y9 y10) (targumlaw5_DecWhole.j3 (k + 1) y0 y1 y2 y3 y4 y5 y6 y7 y8 y9 y10)) ∧ (∀ y0 y1 y2 y3 y4 y5 y6 y7 y8 y9 y10 y11, LeO (targumlaw5_DecWhole.l0 k y0 y1 y2 y3 y4 y5 y6 y7 y8 y9 y10 y11) (targumlaw5_DecWhole.l0 (k + 1) y0 y1 y2 y3 y4 y5 y6 y7 y8 y9 y10 y11))
 | 0 => ⟨fun _ _ _ _ r h => by simp [targumlaw5_DecWhole.j0] at h, fun _ _ _ _ _ _ _ _ _ _ _ r h => by simp [targumlaw5_DecWhole.j1] at h, fun _ _ _ _ _ _ _ _ _ _ _ r h => by simp [targumlaw5_DecWhole.j3] at h, fun _ _ _ _ _ _ _ _ _ _ _ _ r h => by simp [targumlaw5_DecWhole.l0] at h⟩
 | k + 1 => by
  obtain ⟨ih0, ih1, ih2, ih3⟩ := targumlaw5_DecWhole.mono_l k
  refine ⟨?_, ?_, ?_, ?_⟩
  ·intro y0 y1 y2 y3
   unfold targumlaw5_DecWhole.j0
   repeat' first
   | (with_reducible exact ih0 _ _ _ _)
   | (with_reducible exact ih1 _ _ _ _ _ _ _ _ _ _ _)
   | (with_reducible exact ih2 _ _ _ _ _ _ _ _ _ _ _)
   | (with_reducible exact ih3 _ _ _ _ _ _ _ _ _ _ _ _)
   | (with_reducible exact dec_Make.mono _ _ _ _ _)
   | (with_reducible exact targumlaw5_digits.mono _ _)
   | (with_reducible exact targumlaw5_known.mono _)
   | (with_reducible exact targumref4_Add.mono _ _ _)
   | (with_reducible exact targumref4_Compare.mono _ _ _)
   | (with_reducible exact targumref4_Norm.mono _ _ _)
   | (with_reducible exact LeO.refl _)
   | (with_reducible exact LeO.none _)
   | (with_reducible refine LeO.ite ?_ ?_)
   | (with_reducible refine LeO.bind ?_ (fun _ => ?_))
   | exact ih0 _ _ _ _
   | exact ih1 _ _ _ _ _ _ _ _ _ _ _
   | exact ih2 _ _ _ _ _ _ _ _ _ _ _
   | exact ih3 _ _ _ _ _ _ _ _ _ _ _ _
   | exact dec_Make.mono _ _ _ _ _
   | exact targumlaw5_digits.mono _ _
   | exact targumlaw5_known.mono _
   | exact targumref4_Add.mono _ _ _
   | exact targumref4_Compare.mono _ _ _
   | exact targumref4_Norm.mono _ _ _
   | exact LeO.none _
   | refine LeO.ite ?_ ?_
   | refine LeO.bind ?_ (fun _ => ?_)
  ·intro y0 y1 y2 y3 y4 y5 y6 y7 y8 y9 y10
   unfold targumlaw5_DecWhole.j1
   repeat' first
   | (with_reducible exact ih0 _ _ _ _)
   | (with_reducible exact ih1 _ _ _ _ _ _ _ _ _ _ _)
   | (with_reducible exact ih2 _ _ _ _ _ _ _ _ _ _ _)
   | (with_reducible exact ih3 _ _ _ _ _ _ _ _ _ _ _ _)
   | (with_reducible exact dec_Make.mono _ _ _ _ _)
   | (with_reducible exact targumlaw5_digits.mono _ _)
   | (with_reducible exact targumlaw5_known.mono _)
   | (with_reducible exact targumref4_Add.mono _ _ _)
   | (with_reducible exact targumref4_Compare.mono _ _ _)
   | (with_reducible exact targumref4_Norm.mono _ _ _)
   | (with_reducible exact LeO.refl _)
   | (with_reducible exact LeO.none _)
   | (with_reducible refine LeO.ite ?_ ?_)
   | (with_reducible refine LeO.bind ?_ (fun _ => ?_))
   | exact ih0 _ _ _ _
   | exact ih1 _ _ _ _ _ _ _ _ _ _ _
   | exact ih2 _ _ _ _ _ _ _ _ _ _ _
   | exact ih3 _ _ _ _ _ _ _ _ _ _ _ _
   | exact dec_Make.mono _ _ _ _ _
   | exact targumlaw5_digits.mono _ _
   | exact targumlaw5_known.mono _
   | exact targumref4_Add.mono _ _ _
   | exact targumref4_Compare.mono _ _ _
   | exact targumref4_Norm.mono _ _ _
   | exact LeO.none _
   | refine LeO.ite ?_ ?_
   | refine LeO.bind ?_ (fun _ => ?_)
  ·intro y0 y1 y2 y3 y4 y5 y6 y7 y8 y9 y10
   unfold targumlaw5_DecWhole.j3
   repeat' first
   | (with_reducible exact ih0 _ _ _ _)
   | (with_reducible exact ih1 _ _ _ _ _ _ _ _ _ _ _)
   | (with_reducible exact ih2 _ _ _ _ _ _ _ _ _ _ _)
   | (with_reducible exact ih3 _ _ _ _ _ _ _ _ _ _ _ _)
   | (with_reducible exact dec_Make.mono _ _ _ _ _)
   | (with_reducible exact targumlaw5_digits.mono _ _)
   | (with_reducible exact targumlaw5_known.mono _)
   | (with_reducible exact targumref4_Add.mono _ _ _)
   | (with_reducible exact targumref4_Compare.mono _ _ _)
   | (with_reducible exact targumref4_Norm.mono _ _ _)
   | (with_reducible exact LeO.refl _)
   | (with_reducible exact LeO.none _)
   | (with_reducible refine LeO.ite ?_ ?_)
   | (with_reducible refine LeO.bind ?_ (fun _ => ?_))
   | exact ih0 _ _ _ _
   | exact ih1 _ _ _ _ _ _ _ _ _ _ _
   | exact ih2 _ _ _ _ _ _ _ _ _ _ _
   | exact ih3 _ _ _ _ _ _ _ _ _ _ _ _
   | exact dec_Make.mono _ _ _ _ _
   | exact targumlaw5_digits.mono _ _
   | exact targumlaw5_known.mono _
   | exact targumref4_Add.mono _ _ _
   | exact targumref4_Compare.mono _ _ _
   | exact targumref4_Norm.mono _ _ _
   | exact LeO.none _
   | refine LeO.ite ?_ ?_
   | refine LeO.bind ?_ (fun _ => ?_)
  ·intro y0 y1 y2 y3 y4 y5 y6 y7 y8 y9 y10 y11
   unfold targumlaw5_DecWhole.l0
   repeat' first
   | (with_reducible exact ih0 _ _ _ _)
   | (with_reducible exact ih1 _ _ _ _ _ _ _ _ _ _ _)
   | (with_reducible exact ih2 _ _ _ _ _ _ _ _ _ _ _)
   | (with_reducible exact ih3 _ _ _ _ _ _ _ _ _ _ _ _)
   | (with_reducible exact dec_Make.mono _ _ _ _ _)
   | (with_reducible exact targumlaw5_digits.mono _ _)
   | (with_reducible exact targumlaw5_known.mono _)
   | (with_reducible exact targumref4_Add.mono _ _ _)
   | (with_reducible exact targumref4_Compare.mono _ _ _)
   | (with_reducible exact targumref4_Norm.mono _ _ _)
   | (with_reducible exact LeO.refl _)
   | (with_reducible exact LeO.none _)
   | (with_reducible refine LeO.ite ?_ ?_)
   | (with_reducible refine LeO.bind ?_ (fun _ => ?_))
   | exact ih0 _ _ _ _
   | exact ih1 _ _ _ _ _ _ _ _ _ _ _
   | exact ih2 _ _ _ _ _ _ _ _ _ _ _
   | exact ih3 _ _ _ _ _ _ _ _ _ _ _ _
   | exact dec_Make.mono _ _ _ _ _
   | exact targumlaw5_digits.mono _ _
   | exact targumlaw5_known.mono _
   | exact targumref4_Add.mono _ _ _
   | exact targumref4_Compare.mono _ _ _
   | exact targumref4_Norm.mono _ _ _
   | exact LeO.none _
   | refine LeO.ite ?_ ?_
   | refine LeO.bind ?_ (fun _ => ?_)
theorem targumlaw5_DecWhole.mono : ∀ a0 a1 a2 k, LeO (targumlaw5_DecWhole.f k a0 a1 a2) (targumlaw5_DecWhole.f (k + 1) a0 a1 a2) := by
 intro a0 a1 a2 k
 obtain ⟨ih0, ih1, ih2, ih3⟩ := targumlaw5_DecWhole.mono_l k
 unfold targumlaw5_DecWhole.f
 repeat' first
   | (with_reducible exact ih0 _ _ _ _)
   | (with_reducible exact ih1 _ _ _ _ _ _ _ _ _ _ _)
   | (with_reducible exact ih2 _ _ _ _ _ _ _ _ _ _ _)
   | (with_reducible exact ih3 _ _ _ _ _ _ _ _ _ _ _ _)
   | (with_reducible exact dec_Make.mono _ _ _ _ _)
   | (with_reducible exact targumlaw5_digits.mono _ _)
   | (with_reducible exact targumlaw5_known.mono _)
   | (with_reducible exact targumref4_Add.mono _ _ _)
   | (with_reducible exact targumref4_Compare.mono _ _ _)
   | (with_reducible exact targumref4_Norm.mono _ _ _)
   | (with_reducible exact LeO.refl _)
   | (with_reducible exact LeO.none _)
   | (with_reducible refine LeO.ite ?_ ?_)
   | (with_reducible refine LeO.bind ?_ (fun _ => ?_))
   | exact ih0 _ _ _ _
   | exact ih1 _ _ _ _ _ _ _ _ _ _ _
   | exact ih2 _ _ _ _ _ _ _ _ _ _ _
   | exact ih3 _ _ _ _ _ _ _ _ _ _ _ _
   | exact dec_Make.mono _ _ _ _ _
   | exact targumlaw5_digits.mono _ _
   | exact targumlaw5_known.mono _
   | exact targumref4_Add.mono _ _ _
   | exact targumref4_Compare.mono _ _ _
   | exact targumref4_Norm.mono _ _ _
   | exact LeO.none _
   | refine LeO.ite ?_ ?_
   | refine LeO.bind ?_ (fun _ => ?_)
def targumlaw5_DecWhole.T14 : Bool × List (List Nat × List Nat) := (true, [([], []), ([], []), ([1], [1]), ([2, 2], [2]), ([0, 3], [0, 3]), ([4, 3], [4]), ([5], [5]), ([5], [5]), ([6, 7, 5], [5, 6, 7]), ([5], [5]), ([9, 5, 5], [5, 9]), ([10, 10, 5], [5, 10]), ([5], [5]), ([12, 11, 5], [5, 12]), ([13, 13, 5], [5, 13]), ([11, 14, 5], [5, 11, 14]), ([8, 15, 5], [5, 8, 15]), ([5, 16], [5, 16]), ([17, 14, 0, 1, 2, 3, 4, 5, 6, 7, 8, 9, 10, 11, 12, 13, 14, 15, 16, 17], [17])])
def targumlaw5_DecWhole.B14 : List Nat := [0, 0, 2, 6, 15, 31, 63, 63, 255, 63, 575, 1599, 63, 7743, 15935, 32319, 65535, 131071, 262143]
theorem targumlaw5_DecWhole.tab14 : rtab .any (opsOf Tryd.f12 14) = targumlaw5_DecWhole.T14 := by kernel_rfl
theorem targumlaw5_DecWhole.bits14 : waitsOk targumlaw5_DecWhole.T14.2 targumlaw5_DecWhole.B14 = true := by kernel_rfl
set_option maxHeartbeats 8000000 in
set_option maxRecDepth 100000 in
theorem targumlaw5_DecWhole.calls (k : Nat) (a0 : ByteArray) (a1 : ByteArray) (a2 : Bool) (r : Bool) (w : World) (hG : Go.Proofs.YtddaggnomcoejaaDoor.PDT.Tabs w) (h : targumlaw5_DecWhole.f k a0 a1 a2 = some r) :
  Calls Tryd.prog 12 #[.string a0, .string a1, .bool a2] w fun e w' => e = .returned (.bool r) ∧ Below w.heap.size w w' := by
 have hu40 := Tryd.underlying40
 have HG := Aside0.mk hG
 clear hG
 have HB := Aside0.mk (Below.refl w.heap.size w)
 have H : ((targumlaw5_known.f k).bind fun t326 => (if t326 = true then (if (a0.size : Int) < 1 then (targumlaw5_DecWhole.j0 k a0 a1 a2 true) else (if (a1.size : Int) < 1 then (targumlaw5_DecWhole.j0 k a0 a1 a2 true) else (if (a0.size : Int) > 40 then (targumlaw5_DecWhole.j0 k a0 a1 a2 true) else (targumlaw5_DecWhole.j0 k a0 a1 a2 (decide ((a1.size : Int) > 40)))))) else (some false))) = some r := h
 clear h
 replace H := Option.bind_eq_some_iff.mp H
 obtain ⟨t326, A40, H⟩ := H
 replace H : (if t326 = true then (if (a0.size : Int) < 1 then (targumlaw5_DecWhole.j0 k a0 a1 a2 true) else (if (a1.size : Int) < 1 then (targumlaw5_DecWhole.j0 k a0 a1 a2 true) else (if (a0.size : Int) > 40 then (targumlaw5_DecWhole.j0 k a0 a1 a2 true) else (targumlaw5_DecWhole.j0 k a0 a1 a2 (decide ((a1.size : Int) > 40)))))) else (some false)) = some r := H
 have A4 := Aside0.mk A40
 clear A40
 by_cases c5 : t326 = true
 ·subst c5
  have H1 : (if (a0.size : Int) < 1 then (targumlaw5_DecWhole.j0 k a0 a1 a2 true) else (if (a1.size : Int) < 1 then (targumlaw5_DecWhole.j0 k a0 a1 a2 true) else (if (a0.size : Int) > 40 then (targumlaw5_DecWhole.j0 k a0 a1 a2 true) else (targumlaw5_DecWhole.j0 k a0 a1 a2 (decide ((a1.size : Int) > 40)))))) = some r := by rw [if_pos rfl] at H; exact H
  clear H
  have H := H1
  clear H1
  have HC6 := Aside0.mk H
  clear H
  go_enter Tryd.func12, Tryd.ntmps12
  go_upto_region 3 with (first | ((with_reducible refine gate_callee (f := 28) rfl ?_); refine goesL_ (some 13) rfl rfl Tryd.func28 (by kernel_rfl) rfl #[] rfl (by (try simp only [List.map_toArray, List.map_cons, List.map_nil]); first | done | rfl | (simp only [List.length_drop, List.length_take]; rfl)) ?_; (with_reducible refine (targumlaw5_known.calls k  true _ ?side1 A4.out).mono ?_); (case side1 => exact Go.Proofs.YtddaggnomcoejaaDoor.PDT.Tabs_below HG.out bl); rintro e w7 ⟨rfl, hb⟩; refine ⟨_, rfl, ?_⟩; have n0_ := Aside0.mk (below_step bl hb); clear HB; have HB := n0_; clear n0_; (try clear hb); (try clear hb2); (try clear hk); (try clear hi)))
  (try simp only [Act.put, List.setIfInBounds_toArray, List.set_cons_zero, List.set_cons_succ])
  go_cut [32] (fun v32 wc => ∃ (kq : Nat) (x32_5 : Bool), v32 = .bool x32_5 ∧ Aside0 (targumlaw5_DecWhole.j0 kq a0 a1 a2 x32_5 = some r) ∧ Aside0 (kq ≤ k) ∧ Aside0 (Below w.heap.size w wc))
  case first =>
   have H := HC6.out
   clear HC6
   by_cases c8 : (a0.size : Int) < 1
   ·rw [if_pos c8] at H
    have c8b0 : decide ((a0.size : Int) < 1) = true := decide_eq_true c8
    have c8b1 : decide (a0.size < 1) = true := decide_eq_true (by omega)
    clear c8
    (first | rw [c8b0] | (simp only [i64_w, i32_w]; rw [c8b0]) | skip)
    have H' := Aside0.mk H
    clear H
    go_wp2
    go_meet
    case rel => exact ⟨_, (true), (by first | rfl | (simp; done) | (simp [*]; done) | (simp [wrap64]; done)), H', ⟨by first | omega | exact Nat.le_refl _⟩, ⟨bl⟩⟩
   ·rw [if_neg c8] at H
    have c8b0 : decide ((a0.size : Int) < 1) = false := decide_eq_false c8
    have c8b1 : decide (a0.size < 1) = false := decide_eq_false (by omega)
    clear c8
    (first | rw [c8b0] | (simp only [i64_w, i32_w]; rw [c8b0]) | skip)
    by_cases c9 : (a1.size : Int) < 1
    ·rw [if_pos c9] at H
     have c9b0 : decide ((a1.size : Int) < 1) = true := decide_eq_true c9
     have c9b1 : decide (a1.size < 1) = true := decide_eq_true (by omega)
     clear c9
     have H' := Aside0.mk H
     clear H
     go_wp2
     go_meet
     case rel => exact ⟨_, (true), (by first | rfl | (simp; done) | (simp [*]; done) | (simp [wrap64]; done)), H', ⟨by first | omega | exact Nat.le_refl _⟩, ⟨bl⟩⟩
    ·rw [if_neg c9] at H
     have c9b0 : decide ((a1.size : Int) < 1) = false := decide_eq_false c9
     have c9b1 : decide (a1.size < 1) = false := decide_eq_false (by omega)
     clear c9
     by_cases c10 : (a0.size : Int) > 40
     ·rw [if_pos c10] at H
      have c10b0 : decide (40 < (a0.size : Int)) = true := decide_eq_true c10
      have c10b1 : decide (40 < a0.size) = true := decide_eq_true (by omega)
      clear c10
      have H' := Aside0.mk H
      clear H
      go_wp2
      go_meet
      case rel => exact ⟨_, (true), (by first | rfl | (simp; done) | (simp [*]; done) | (simp [wrap64]; done)), H', ⟨by first | omega | exact Nat.le_refl _⟩, ⟨bl⟩⟩
     ·rw [if_neg c10] at H
      have c10b0 : decide (40 < (a0.size : Int)) = false := decide_eq_false c10
      have c10b1 : decide (40 < a0.size) = false := decide_eq_false (by omega)
      clear c10
      have H' := Aside0.mk H
      clear H
      go_wp2
      go_meet
      case rel => exact ⟨_, (decide ((a1.size : Int) > 40)), (by first | rfl | (simp; done) | (simp [*]; done) | (simp [wrap64]; done)), H', ⟨by first | omega | exact Nat.le_refl _⟩, ⟨bl⟩⟩
  case rest =>
   clear HC6
   try clear c1; try clear c2; try clear p2; try clear c5; try clear c8; try clear c8b0; try clear c8b1; try clear c9; try clear c9b0; try clear c9b1; try clear c10; try clear c10b0; try clear c10b1
   obtain ⟨kq, x32_5, rfl, HA, HJ5, HB⟩ := hcut
   cases kq with
   | zero => exact absurd HA.out (by simp [targumlaw5_DecWhole.j0])
   | succ kj5 =>
    have H := HA.out
    clear HA
    simp only [targumlaw5_DecWhole.j0] at H
    by_cases c11 : x32_5 = true
    ·subst c11
     have H1 : (some true) = some r := by rw [if_pos rfl] at H; exact H
     clear H
     have H := H1
     clear H1
     obtain rfl := Option.some.inj H
     go_wp2
     go_ret
     exact ⟨by first | rfl | (simp [errW_none, errW_some] <;> rfl) | (simp [*, errW_none, errW_some] <;> rfl), bl⟩
    ·replace c11 := Bool.eq_false_iff.mpr c11
     subst c11
     have H1 : ((targumlaw5_digits.f kj5 a0).bind fun t327 => ((dec_Make.f kj5 a2 t327 (⟨#[]⟩ : ByteArray) (⟨#[48]⟩ : ByteArray)).bind fun bt328 => ((targumlaw5_digits.f kj5 a1).bind fun t334 => ((dec_Make.f kj5 a2 t334 (⟨#[]⟩ : ByteArray) (⟨#[48]⟩ : ByteArray)).bind fun bt335 => (if bt328.2.2.2.2 = true then (targumlaw5_DecWhole.j1 kj5 a0 a1 (!bt335.2.2.2.2) bt328.1 bt328.2.1 bt328.2.2.1 bt328.2.2.2.1 bt335.1 bt335.2.1 bt335.2.2.1 bt335.2.2.2.1) else (targumlaw5_DecWhole.j1 kj5 a0 a1 true bt328.1 bt328.2.1 bt328.2.2.1 bt328.2.2.2.1 bt335.1 bt335.2.1 bt335.2.2.1 bt335.2.2.2.1)))))) = some r := by rw [if_neg (show ¬ (false = true) by decide)] at H; exact H
     clear H
     have H := H1
     clear H1
     replace H := Option.bind_eq_some_iff.mp H
     obtain ⟨t327, A120, H⟩ := H
     replace H : ((dec_Make.f kj5 a2 t327 (⟨#[]⟩ : ByteArray) (⟨#[48]⟩ : ByteArray)).bind fun bt328 => ((targumlaw5_digits.f kj5 a1).bind fun t334 => ((dec_Make.f kj5 a2 t334 (⟨#[]⟩ : ByteArray) (⟨#[48]⟩ : ByteArray)).bind fun bt335 => (if bt328.2.2.2.2 = true then (targumlaw5_DecWhole.j1 kj5 a0 a1 (!bt335.2.2.2.2) bt328.1 bt328.2.1 bt328.2.2.1 bt328.2.2.2.1 bt335.1 bt335.2.1 bt335.2.2.1 bt335.2.2.2.1) else (targumlaw5_DecWhole.j1 kj5 a0 a1 true bt328.1 bt328.2.1 bt328.2.2.1 bt328.2.2.2.1 bt335.1 bt335.2.1 bt335.2.2.1 bt335.2.2.2.1))))) = some r := H
     have A12 := Aside0.mk A120
     clear A120
     replace H := Option.bind_eq_some_iff.mp H
     obtain ⟨⟨t328, t329, t330, t331, t332⟩, A130, H⟩ := H
     replace H : ((targumlaw5_digits.f kj5 a1).bind fun t334 => ((dec_Make.f kj5 a2 t334 (⟨#[]⟩ : ByteArray) (⟨#[48]⟩ : ByteArray)).bind fun bt335 => (if t332 = true then (targumlaw5_DecWhole.j1 kj5 a0 a1 (!bt335.2.2.2.2) t328 t329 t330 t331 bt335.1 bt335.2.1 bt335.2.2.1 bt335.2.2.2.1) else (targumlaw5_DecWhole.j1 kj5 a0 a1 true t328 t329 t330 t331 bt335.1 bt335.2.1 bt335.2.2.1 bt335.2.2.2.1)))) = some r := H
     have A13 := Aside0.mk A130
     clear A130
     replace H := Option.bind_eq_some_iff.mp H
     obtain ⟨t334, A140, H⟩ := H
     replace H : ((dec_Make.f kj5 a2 t334 (⟨#[]⟩ : ByteArray) (⟨#[48]⟩ : ByteArray)).bind fun bt335 => (if t332 = true then (targumlaw5_DecWhole.j1 kj5 a0 a1 (!bt335.2.2.2.2) t328 t329 t330 t331 bt335.1 bt335.2.1 bt335.2.2.1 bt335.2.2.2.1) else (targumlaw5_DecWhole.j1 kj5 a0 a1 true t328 t329 t330 t331 bt335.1 bt335.2.1 bt335.2.2.1 bt335.2.2.2.1))) = some r := H
     have A14 := Aside0.mk A140
     clear A140
     replace H := Option.bind_eq_some_iff.mp H
     obtain ⟨⟨t335, t336, t337, t338, t339⟩, A150, H⟩ := H
     replace H : (if t332 = true then (targumlaw5_DecWhole.j1 kj5 a0 a1 (!t339) t328 t329 t330 t331 t335 t336 t337 t338) else (targumlaw5_DecWhole.j1 kj5 a0 a1 true t328 t329 t330 t331 t335 t336 t337 t338)) = some r := H
     have A15 := Aside0.mk A150
     clear A150
     have HC16 := Aside0.mk H
     clear H
     go_upto_region 7 with (first | ((with_reducible refine gate_callee (f := 37) rfl ?_); refine goesL_ (some 36) rfl rfl Tryd.func37 (by kernel_rfl) rfl #[.string a0] rfl (by (try simp only [List.map_toArray, List.map_cons, List.map_nil]); first | done | rfl | (simp only [List.length_drop, List.length_take]; rfl)) ?_; (with_reducible refine (targumlaw5_digits.calls kj5 a0 t327 _ A12.out).mono ?_); rintro e w17 ⟨rfl, hb⟩; refine ⟨_, rfl, ?_⟩; have n0_ := Aside0.mk (below_step bl hb); clear HB; have HB := n0_; clear n0_; (try clear hb); (try clear hb2); (try clear hk); (try clear hi)) | ((with_reducible refine gate_callee (f := 29) rfl ?_); refine goesL_ (some 37) rfl rfl Tryd.func29 (by kernel_rfl) rfl #[.bool a2, .string t327, .string (⟨#[]⟩ : ByteArray), .string (⟨#[48]⟩ : ByteArray)] rfl (by (try simp only [List.map_toArray, List.map_cons, List.map_nil]); first | done | rfl | (simp only [List.length_drop, List.length_take]; rfl)) ?_; (with_reducible refine (dec_Make.calls kj5 a2 t327 (⟨#[]⟩ : ByteArray) (⟨#[48]⟩ : ByteArray) t328 t329 t330 t331 t332 _ ?side1 A13.out).mono ?_); (case side1 => exact Go.Proofs.YtddaggnomcoejaaDoor.PDT.Tabs_below HG.out bl); rintro e w18 ⟨rfl, hb⟩; refine ⟨_, rfl, ?_⟩; have n0_ := Aside0.mk (below_step bl hb); clear HB; have HB := n0_; clear n0_; (try clear hb); (try clear hb2); (try clear hk); (try clear hi)) | ((with_reducible refine gate_dst (N := 7) rfl ?_); (try (refine gate_guard (by rfl) ?_; dsimp only)); refine box_event ?hg (N := 7) ?hd (cs := #[.int .i64 0, .bool false, .string (⟨#[]⟩ : ByteArray), .string (⟨#[]⟩ : ByteArray)]) (t := 40) ?hr ?_; (case hd => rfl); (case hg => rfl); (case hr => first | (go_simp; done) | (go_simp; rfl)); intro gb333 hg w19 hbox hb; have n0_ := Aside0.mk (below_step bl hb); have n1_ := Aside0.mk (hbox); have n2_ := Aside0.mk ((by rw [hg]; exact (below_size bl) : w.heap.size ≤ gb333)); have n3_ := Aside0.mk ((by rw [hg]; exact (below_size bl) : w.heap.size ≤ gb333)); clear HB; have HB := n0_; have BK333 := n1_; have GW333 := n2_; have GE333 := n3_; clear n0_ n1_ n2_ n3_; clear hb hbox hg; have hcz20_0 : w19.cell? ⟨gb333, 0, none⟩ = some (.int .i64 0) := (blk_cell BK333.out 0).trans rfl; have hcz20_1 : w19.cell? ⟨gb333, 1, none⟩ = some (.bool false) := (blk_cell BK333.out 1).trans rfl; have hcz20_2 : w19.cell? ⟨gb333, 2, none⟩ = some (.string (⟨#[]⟩ : ByteArray)) := (blk_cell BK333.out 2).trans rfl; have hcz20_3 : w19.cell? ⟨gb333, 3, none⟩ = some (.string (⟨#[]⟩ : ByteArray)) := (blk_cell BK333.out 3).trans rfl; have hfz20_0 := blk_frozen BK333.out 0; have hfz20_1 := blk_frozen BK333.out 1; have hfz20_2 := blk_frozen BK333.out 2; have hfz20_3 := blk_frozen BK333.out 3) | ((with_reducible refine gate_callee (f := 37) rfl ?_); refine goesL_ (some 43) rfl rfl Tryd.func37 (by kernel_rfl) rfl #[.string a1] rfl (by (try simp only [List.map_toArray, List.map_cons, List.map_nil]); first | done | rfl | (simp only [List.length_drop, List.length_take]; rfl)) ?_; (with_reducible refine (targumlaw5_digits.calls kj5 a1 t334 _ A14.out).mono ?_); rintro e w21 ⟨rfl, hb⟩; refine ⟨_, rfl, ?_⟩; have n0_ := Aside0.mk (blk_below (g := gb333) (o := .cells #[.int .i64 t328, .bool t329, .string t330, .string t331] 40 (0, 0)) bk hb); have n1_ := Aside0.mk (below_step bl hb); clear BK333; clear HB; have BK333 := n0_; have HB := n1_; clear n0_ n1_; (try clear hb); (try clear hb2); (try clear hk); (try clear hi)) | ((with_reducible refine gate_callee (f := 29) rfl ?_); refine goesL_ (some 44) rfl rfl Tryd.func29 (by kernel_rfl) rfl #[.bool a2, .string t334, .string (⟨#[]⟩ : ByteArray), .string (⟨#[48]⟩ : ByteArray)] rfl (by (try simp only [List.map_toArray, List.map_cons, List.map_nil]); first | done | rfl | (simp only [List.length_drop, List.length_take]; rfl)) ?_; (with_reducible refine (dec_Make.calls kj5 a2 t334 (⟨#[]⟩ : ByteArray) (⟨#[48]⟩ : ByteArray) t335 t336 t337 t338 t339 _ ?side1 A15.out).mono ?_); (case side1 => exact Go.Proofs.YtddaggnomcoejaaDoor.PDT.Tabs_below HG.out bl); rintro e w22 ⟨rfl, hb⟩; refine ⟨_, rfl, ?_⟩; have n0_ := Aside0.mk (blk_below (g := gb333) (o := .cells #[.int .i64 t328, .bool t329, .string t330, .string t331] 40 (0, 0)) bk hb); have n1_ := Aside0.mk (below_step bl hb); clear BK333; clear HB; have BK333 := n0_; have HB := n1_; clear n0_ n1_; (try clear hb); (try clear hb2); (try clear hk); (try clear hi)) | ((with_reducible refine gate_dst (N := 9) rfl ?_); (try (refine gate_guard (by rfl) ?_; dsimp only)); refine box_event ?hg (N := 9) ?hd (cs := #[.int .i64 0, .bool false, .string (⟨#[]⟩ : ByteArray), .string (⟨#[]⟩ : ByteArray)]) (t := 40) ?hr ?_; (case hd => rfl); (case hg => rfl); (case hr => first | (go_simp; done) | (go_simp; rfl)); intro gb340 hg w23 hbox hb; have n0_ := Aside0.mk (blk_below (g := gb333) (o := .cells #[.int .i64 t328, .bool t329, .string t330, .string t331] 40 (0, 0)) bk hb); have n1_ := Aside0.mk (below_step bl hb); have n2_ := Aside0.mk (hbox); have n3_ := Aside0.mk ((by rw [hg]; exact (below_size bl) : w.heap.size ≤ gb340)); have n4_ := Aside0.mk ((by rw [hg]; exact (below_size bl) : w.heap.size ≤ gb340)); have n5_ := Aside0.mk ((by rw [hg]; exact Nat.ne_of_lt (blk_lt (g := gb333) (o := .cells #[.int .i64 t328, .bool t329, .string t330, .string t331] 40 (0, 0)) bk) : gb333 ≠ gb340)); have n6_ := Aside0.mk ((by rw [hg]; exact Nat.ne_of_gt (blk_lt (g := gb333) (o := .cells #[.int .i64 t328, .bool t329, .string t330, .string t331] 40 (0, 0)) bk) : gb340 ≠ gb333)); clear BK333; clear HB; have BK333 := n0_; have HB := n1_; have BK340 := n2_; have GW340 := n3_; have GE340 := n4_; have NB333_340 := n5_; have NB340_333 := n6_; clear n0_ n1_ n2_ n3_ n4_ n5_ n6_; clear hb hbox hg; have hnb24 := NB340_333.out; have hnc24 := NB333_340.out; have hcz25_0 : w23.cell? ⟨gb340, 0, none⟩ = some (.int .i64 0) := (blk_cell BK340.out 0).trans rfl; have hcz25_1 : w23.cell? ⟨gb340, 1, none⟩ = some (.bool false) := (blk_cell BK340.out 1).trans rfl; have hcz25_2 : w23.cell? ⟨gb340, 2, none⟩ = some (.string (⟨#[]⟩ : ByteArray)) := (blk_cell BK340.out 2).trans rfl; have hcz25_3 : w23.cell? ⟨gb340, 3, none⟩ = some (.string (⟨#[]⟩ : ByteArray)) := (blk_cell BK340.out 3).trans rfl; have hfz25_0 := blk_frozen BK340.out 0; have hfz25_1 := blk_frozen BK340.out 1; have hfz25_2 := blk_frozen BK340.out 2; have hfz25_3 := blk_frozen BK340.out 3))
     (try simp only [Act.put, List.setIfInBounds_toArray, List.set_cons_zero, List.set_cons_succ])
     go_cut [52] (fun v52 wc => ∃ (kq : Nat) (x52_15 : Bool), v52 = .bool x52_15 ∧ Aside0 (targumlaw5_DecWhole.j1 kq a0 a1 x52_15 t328 t329 t330 t331 t335 t336 t337 t338 = some r) ∧ Aside0 (kq ≤ kj5) ∧ Aside0 (wc.heap[gb333]? = some (.cells #[.int .i64 t328, .bool t329, .string t330, .string t331] 40 (0, 0))) ∧ Aside0 (wc.heap[gb340]? = some (.cells #[.int .i64 t335, .bool t336, .string t337, .string t338] 40 (0, 0))) ∧ Aside0 (Below w.heap.size w wc))
     case first =>
      have H := HC16.out
      clear HC16
      by_cases c26 : t332 = true
      ·subst c26
       have H1 : (targumlaw5_DecWhole.j1 kj5 a0 a1 (!t339) t328 t329 t330 t331 t335 t336 t337 t338) = some r := by rw [if_pos rfl] at H; exact H
       clear H
       have H := H1
       clear H1
       have H' := Aside0.mk H
       clear H
       go_wp2
       go_meet
       case rel => exact ⟨_, (!t339), (by first | rfl | (simp; done) | (simp [*]; done) | (simp [wrap64]; done)), H', ⟨by have := HJ5.out; first | omega | exact Nat.le_refl _⟩, ⟨by (with_reducible repeat (first | refine blk_drewN ?_ _ | refine blk_drew ?_ | refine blk_alloc ?_ _)); refine blk_far ?_ NB333_340.out _; (with_reducible repeat (first | refine blk_drewN ?_ _ | refine blk_drew ?_ | refine blk_alloc ?_ _)); refine blk_far ?_ NB333_340.out _; (with_reducible repeat (first | refine blk_drewN ?_ _ | refine blk_drew ?_ | refine blk_alloc ?_ _)); refine blk_far ?_ NB333_340.out _; (with_reducible repeat (first | refine blk_drewN ?_ _ | refine blk_drew ?_ | refine blk_alloc ?_ _)); refine blk_far ?_ NB333_340.out _; (with_reducible repeat (first | refine blk_drewN ?_ _ | refine blk_drew ?_ | refine blk_alloc ?_ _)); exact BK333.out⟩, ⟨by (with_reducible repeat (first | refine blk_drewN ?_ _ | refine blk_drew ?_ | refine blk_alloc ?_ _)); refine blk_put (cs := #[.int .i64 t335, .bool t336, .string t337, .string (⟨#[]⟩ : ByteArray)]) ?_ 3 _ rfl; (with_reducible repeat (first | refine blk_drewN ?_ _ | refine blk_drew ?_ | refine blk_alloc ?_ _)); refine blk_put (cs := #[.int .i64 t335, .bool t336, .string (⟨#[]⟩ : ByteArray), .string (⟨#[]⟩ : ByteArray)]) ?_ 2 _ rfl; (with_reducible repeat (first | refine blk_drewN ?_ _ | refine blk_drew ?_ | refine blk_alloc ?_ _)); refine blk_put (cs := #[.int .i64 t335, .bool false, .string (⟨#[]⟩ : ByteArray), .string (⟨#[]⟩ : ByteArray)]) ?_ 1 _ rfl; (with_reducible repeat (first | refine blk_drewN ?_ _ | refine blk_drew ?_ | refine blk_alloc ?_ _)); refine blk_put (cs := #[.int .i64 0, .bool false, .string (⟨#[]⟩ : ByteArray), .string (⟨#[]⟩ : ByteArray)]) ?_ 0 _ rfl; (with_reducible repeat (first | refine blk_drewN ?_ _ | refine blk_drew ?_ | refine blk_alloc ?_ _)); exact BK340.out⟩, ⟨bl⟩⟩
      ·replace c26 := Bool.eq_false_iff.mpr c26
       subst c26
       have H1 : (targumlaw5_DecWhole.j1 kj5 a0 a1 true t328 t329 t330 t331 t335 t336 t337 t338) = some r := by rw [if_neg (show ¬ (false = true) by decide)] at H; exact H
       clear H
       have H := H1
       clear H1
       have H' := Aside0.mk H
       clear H
       go_wp2
       go_meet
       case rel => exact ⟨_, (true), (by first | rfl | (simp; done) | (simp [*]; done) | (simp [wrap64]; done)), H', ⟨by have := HJ5.out; first | omega | exact Nat.le_refl _⟩, ⟨by (with_reducible repeat (first | refine blk_drewN ?_ _ | refine blk_drew ?_ | refine blk_alloc ?_ _)); refine blk_far ?_ NB333_340.out _; (with_reducible repeat (first | refine blk_drewN ?_ _ | refine blk_drew ?_ | refine blk_alloc ?_ _)); refine blk_far ?_ NB333_340.out _; (with_reducible repeat (first | refine blk_drewN ?_ _ | refine blk_drew ?_ | refine blk_alloc ?_ _)); refine blk_far ?_ NB333_340.out _; (with_reducible repeat (first | refine blk_drewN ?_ _ | refine blk_drew ?_ | refine blk_alloc ?_ _)); refine blk_far ?_ NB333_340.out _; (with_reducible repeat (first | refine blk_drewN ?_ _ | refine blk_drew ?_ | refine blk_alloc ?_ _)); exact BK333.out⟩, ⟨by (with_reducible repeat (first | refine blk_drewN ?_ _ | refine blk_drew ?_ | refine blk_alloc ?_ _)); refine blk_put (cs := #[.int .i64 t335, .bool t336, .string t337, .string (⟨#[]⟩ : ByteArray)]) ?_ 3 _ rfl; (with_reducible repeat (first | refine blk_drewN ?_ _ | refine blk_drew ?_ | refine blk_alloc ?_ _)); refine blk_put (cs := #[.int .i64 t335, .bool t336, .string (⟨#[]⟩ : ByteArray), .string (⟨#[]⟩ : ByteArray)]) ?_ 2 _ rfl; (with_reducible repeat (first | refine blk_drewN ?_ _ | refine blk_drew ?_ | refine blk_alloc ?_ _)); refine blk_put (cs := #[.int .i64 t335, .bool false, .string (⟨#[]⟩ : ByteArray), .string (⟨#[]⟩ : ByteArray)]) ?_ 1 _ rfl; (with_reducible repeat (first | refine blk_drewN ?_ _ | refine blk_drew ?_ | refine blk_alloc ?_ _)); refine blk_put (cs := #[.int .i64 0, .bool false, .string (⟨#[]⟩ : ByteArray), .string (⟨#[]⟩ : ByteArray)]) ?_ 0 _ rfl; (with_reducible repeat (first | refine blk_drewN ?_ _ | refine blk_drew ?_ | refine blk_alloc ?_ _)); exact BK340.out⟩, ⟨bl⟩⟩
     case rest =>
      clear HC16
      try clear c1; try clear c2; try clear p2; try clear c3; try clear c5; try clear c8; try clear c8b0; try clear c8b1; try clear c9; try clear c9b0; try clear c9b1; try clear c10; try clear c10b0; try clear c10b1; try clear c11; try clear c12; try clear c24; try clear c26; try clear hcz20_0; try clear hcz20_1; try clear hcz20_2; try clear hcz20_3; try clear hcz25_0; try clear hcz25_1; try clear hcz25_2; try clear hcz25_3; try clear hfz20_0; try clear hfz20_1; try clear hfz20_2; try clear hfz20_3; try clear hfz25_0; try clear hfz25_1; try clear hfz25_2; try clear hfz25_3; try clear p2
      obtain ⟨kq, x52_15, rfl, HA, HJ15, BK333, BK340, HB⟩ := hcut
      cases kq with
      | zero => exact absurd HA.out (by simp [targumlaw5_DecWhole.j1])
      | succ kj15 =>
       have H := HA.out
       clear HA
       simp only [targumlaw5_DecWhole.j1] at H
       by_cases c27 : x52_15 = true
       ·subst c27
        have H1 : (some false) = some r := by rw [if_pos rfl] at H; exact H
        clear H
        have H := H1
        clear H1
        obtain rfl := Option.some.inj H
        go_wp2
        go_ret
        exact ⟨by first | rfl | (simp [errW_none, errW_some] <;> rfl) | (simp [*, errW_none, errW_some] <;> rfl), bl⟩
       ·replace c27 := Bool.eq_false_iff.mpr c27
        subst c27
        have H1 : (targumlaw5_DecWhole.l0 kj15 a0 a1 t330 (⟨#[48]⟩ : ByteArray) t328 t329 t330 t331 t335 t336 t337 t338) = some r := by rw [if_neg (show ¬ (false = true) by decide)] at H; exact H
        clear H
        have H := H1
        clear H1
        have HC28 := Aside0.mk H
        clear H
        have hnb29 := NB333_340.out
        have hnc29 := NB340_333.out
        have hcz30_0 : wc.cell? ⟨gb333, 0, none⟩ = some (.int .i64 t328) := (blk_cell BK333.out 0).trans rfl
        have hcz30_1 : wc.cell? ⟨gb333, 1, none⟩ = some (.bool t329) := (blk_cell BK333.out 1).trans rfl
        have hcz30_2 : wc.cell? ⟨gb333, 2, none⟩ = some (.string t330) := (blk_cell BK333.out 2).trans rfl
        have hcz30_3 : wc.cell? ⟨gb333, 3, none⟩ = some (.string t331) := (blk_cell BK333.out 3).trans rfl
        have hfz30_0 := blk_frozen BK333.out 0
        have hfz30_1 := blk_frozen BK333.out 1
        have hfz30_2 := blk_frozen BK333.out 2
        have hfz30_3 := blk_frozen BK333.out 3
        go_upto_block 0 with (fail)
        go_cut [11] (fun v11 wc => ∃ (kq : Nat) (x11_27 : ByteArray), v11 = .string x11_27 ∧ Aside0 (targumlaw5_DecWhole.j3 kq a0 a1 x11_27 t328 t329 t330 t331 t335 t336 t337 t338 = some r) ∧ Aside0 (kq ≤ kj15) ∧ Aside0 (wc.heap[gb333]? = some (.cells #[.int .i64 t328, .bool t329, .string t330, .string t331] 40 (0, 0))) ∧ Aside0 (wc.heap[gb340]? = some (.cells #[.int .i64 t335, .bool t336, .string t337, .string t338] 40 (0, 0))) ∧ Aside0 (Below w.heap.size w wc))
        case first =>
         have H := HC28.out
         clear HC28
         have H' := Aside0.mk H
         clear H
         go_wp2
         go_loopg [11, 12] kj15 (fun kq v11 v12 w' => ∃ (x11_3 : ByteArray) (x12_3 : ByteArray), v11 = .string x11_3 ∧ v12 = .string x12_3 ∧ Aside0 (targumlaw5_DecWhole.l0 kq a0 a1 x11_3 x12_3 t328 t329 t330 t331 t335 t336 t337 t338 = some r) ∧ Aside0 (kq ≤ kj15) ∧ Aside0 (w'.heap[gb333]? = some (.cells #[.int .i64 t328, .bool t329, .string t330, .string t331] 40 (0, 0))) ∧ Aside0 (w'.heap[gb340]? = some (.cells #[.int .i64 t335, .bool t336, .string t337, .string t338] 40 (0, 0))) ∧ Aside0 (Below w.heap.size w w'))
         case atStart => exact ⟨(t330), ((⟨#[48]⟩ : ByteArray)), (by first | rfl | (simp; done) | (simp [*]; done) | (simp [wrap64]; done)), (by first | rfl | (simp; done) | (simp [*]; done) | (simp [wrap64]; done)), H', ⟨Nat.le_refl _⟩, ⟨by (with_reducible repeat (first | refine blk_drewN ?_ _ | refine blk_drew ?_ | refine blk_alloc ?_ _)); exact BK333.out⟩, ⟨by (with_reducible repeat (first | refine blk_drewN ?_ _ | refine blk_drew ?_ | refine blk_alloc ?_ _)); exact BK340.out⟩, ⟨bl⟩⟩
         case round =>
          clear H'
          try clear c1; try clear c2; try clear p2; try clear c3; try clear c5; try clear c8; try clear c8b0; try clear c8b1; try clear c9; try clear c9b0; try clear c9b1; try clear c10; try clear c10b0; try clear c10b1; try clear c11; try clear c12; try clear c24; try clear c26; try clear c27; try clear c28; try clear c29; try clear hcz20_0; try clear hcz20_1; try clear hcz20_2; try clear hcz20_3; try clear hcz25_0; try clear hcz25_1; try clear hcz25_2; try clear hcz25_3; try clear hcz30_0; try clear hcz30_1; try clear hcz30_2; try clear hcz30_3; try clear hfz20_0; try clear hfz20_1; try clear hfz20_2; try clear hfz20_3; try clear hfz25_0; try clear hfz25_1; try clear hfz25_2; try clear hfz25_3; try clear hfz30_0; try clear hfz30_1; try clear hfz30_2; try clear hfz30_3; try clear p2
          obtain ⟨x11_3, x12_3, rfl, rfl, HA, HK3, BK333, BK340, HB⟩ := hrel
          cases gk with
          | zero => exact absurd HA.out (by simp [targumlaw5_DecWhole.l0])
          | succ k3 =>
           have H := HA.out
           clear HA
           simp only [targumlaw5_DecWhole.l0] at H
           by_cases c31 : t330.toList = ([48] : List UInt8)
           ·rw [if_pos c31] at H
            have c31b0 : (t330.toList == ([48] : List UInt8)) = true := beq_iff_eq.mpr c31
            have c31b1 : (t330.toList != ([48] : List UInt8)) = false := bne_eq_false_iff_eq.mpr c31
            clear c31
            (first | rw [c31b0] | (simp only [i64_w, i32_w]; rw [c31b0]) | skip)
            have H' := Aside0.mk H
            clear H
            have hnb32 := NB333_340.out
            have hnc32 := NB340_333.out
            have hcz33_0 : wr.cell? ⟨gb333, 0, none⟩ = some (.int .i64 t328) := (blk_cell BK333.out 0).trans rfl
            have hcz33_1 : wr.cell? ⟨gb333, 1, none⟩ = some (.bool t329) := (blk_cell BK333.out 1).trans rfl
            have hcz33_2 : wr.cell? ⟨gb333, 2, none⟩ = some (.string t330) := (blk_cell BK333.out 2).trans rfl
            have hcz33_3 : wr.cell? ⟨gb333, 3, none⟩ = some (.string t331) := (blk_cell BK333.out 3).trans rfl
            have hfz33_0 := blk_frozen BK333.out 0
            have hfz33_1 := blk_frozen BK333.out 1
            have hfz33_2 := blk_frozen BK333.out 2
            have hfz33_3 := blk_frozen BK333.out 3
            go_wp2
            go_meet
            case rel => exact ⟨_, (x11_3), (by first | rfl | (simp; done) | (simp [*]; done) | (simp [wrap64]; done)), H', ⟨by have := HJ5.out; have := HJ15.out; have := HK3.out; first | omega | exact Nat.le_refl _⟩, ⟨by (with_reducible repeat (first | refine blk_drewN ?_ _ | refine blk_drew ?_ | refine blk_alloc ?_ _)); exact BK333.out⟩, ⟨by (with_reducible repeat (first | refine blk_drewN ?_ _ | refine blk_drew ?_ | refine blk_alloc ?_ _)); exact BK340.out⟩, ⟨bl⟩⟩
           ·rw [if_neg c31] at H
            have c31b0 : (t330.toList == ([48] : List UInt8)) = false := beq_eq_false_iff_ne.mpr c31
            have c31b1 : (t330.toList != ([48] : List UInt8)) = true := bne_iff_ne.mpr c31
            (first | rw [c31b0] | (simp only [i64_w, i32_w]; rw [c31b0]) | skip)
            replace H := Option.bind_eq_some_iff.mp H
            obtain ⟨t341, A340, H⟩ := H
            replace H : (if t341 < 0 then (if x11_3.size + 1 ≤ 9223372036854775807 then ((targumref4_Add.f k3 x12_3 1).bind fun t342 => (targumlaw5_DecWhole.l0 k3 a0 a1 (x11_3 ++ (⟨#[48]⟩ : ByteArray)) t342 t328 t329 t330 t331 t335 t336 t337 t338)) else (none)) else (targumlaw5_DecWhole.j3 k3 a0 a1 x11_3 t328 t329 t330 t331 t335 t336 t337 t338)) = some r := H
            have A34 := Aside0.mk A340
            clear A340
            by_cases c35 : t341 < 0
            ·rw [if_pos c35] at H
             have c35b0 : decide (t341 < 0) = true := decide_eq_true c35
             clear c35
             by_cases c36 : x11_3.size + 1 ≤ 9223372036854775807
             ·rw [if_pos c36] at H
              have c36b0 := eq_true c36
              have c36b1 : decide (x11_3.size + 1 ≤ 9223372036854775807) = true := decide_eq_true c36
              try have c36b2 : (9223372036854775807 < x11_3.size + 1) = False := eq_false (Nat.not_lt.2 c36)
              replace H := Option.bind_eq_some_iff.mp H
              obtain ⟨t342, A370, H⟩ := H
              replace H : (targumlaw5_DecWhole.l0 k3 a0 a1 (x11_3 ++ (⟨#[48]⟩ : ByteArray)) t342 t328 t329 t330 t331 t335 t336 t337 t338) = some r := H
              have A37 := Aside0.mk A370
              clear A370
              have H' := Aside0.mk H
              clear H
              have hnb38 := NB333_340.out
              have hnc38 := NB340_333.out
              have hcz39_0 : wr.cell? ⟨gb333, 0, none⟩ = some (.int .i64 t328) := (blk_cell BK333.out 0).trans rfl
              have hcz39_1 : wr.cell? ⟨gb333, 1, none⟩ = some (.bool t329) := (blk_cell BK333.out 1).trans rfl
              have hcz39_2 : wr.cell? ⟨gb333, 2, none⟩ = some (.string t330) := (blk_cell BK333.out 2).trans rfl
              have hcz39_3 : wr.cell? ⟨gb333, 3, none⟩ = some (.string t331) := (blk_cell BK333.out 3).trans rfl
              have hfz39_0 := blk_frozen BK333.out 0
              have hfz39_1 := blk_frozen BK333.out 1
              have hfz39_2 := blk_frozen BK333.out 2
              have hfz39_3 := blk_frozen BK333.out 3
              go_wp2_with (first | (go_at_call 26; (try (rename_i hK_; simp only [List.append] at hK_)); (with_reducible refine (targumref4_Compare.calls k3 x12_3 t331 t341 _ A34.out).mono ?_); rintro e w' ⟨rfl, ⟨nd, rfl⟩⟩) | ((with_reducible refine gate_callee (f := 24) rfl ?_); refine goesL_ (some 66) rfl rfl Tryd.func24 (by kernel_rfl) rfl #[.string x12_3, .int .i64 1] rfl (by (try simp only [List.map_toArray, List.map_cons, List.map_nil]); first | done | rfl | (simp only [List.length_drop, List.length_take]; rfl)) ?_; (with_reducible refine (targumref4_Add.calls k3 x12_3 1 t342 _ A37.out).mono ?_); rintro e w40 ⟨rfl, hb⟩; refine ⟨_, rfl, ?_⟩; have n0_ := Aside0.mk (blk_below (g := gb333) (o := .cells #[.int .i64 t328, .bool t329, .string t330, .string t331] 40 (0, 0)) bk hb); have n1_ := Aside0.mk (blk_below (g := gb340) (o := .cells #[.int .i64 t335, .bool t336, .string t337, .string t338] 40 (0, 0)) bk hb); have n2_ := Aside0.mk (below_step bl hb); clear BK333; clear BK340; clear HB; have BK333 := n0_; have BK340 := n1_; have HB := n2_; clear n0_ n1_ n2_; (try clear hb); (try clear hb2); (try clear hk); (try clear hi)))
              go_roundg k3
              case measure => have := HJ5.out; have := HJ15.out; have := HK3.out; omega
              case rel => exact ⟨(x11_3 ++ (⟨#[48]⟩ : ByteArray)), (t342), (by first | rfl | (simp; done) | (simp [*]; done) | (simp [wrap64]; done)), (by first | rfl | (simp; done) | (simp [*]; done) | (simp [wrap64]; done)), H', ⟨by have := HJ5.out; have := HJ15.out; have := HK3.out; omega⟩, ⟨by (with_reducible repeat (first | refine blk_drewN ?_ _ | refine blk_drew ?_ | refine blk_alloc ?_ _)); exact BK333.out⟩, ⟨by (with_reducible repeat (first | refine blk_drewN ?_ _ | refine blk_drew ?_ | refine blk_alloc ?_ _)); exact BK340.out⟩, ⟨bl⟩⟩
             ·rw [if_neg c36] at H
              exact absurd H (by simp)
            ·rw [if_neg c35] at H
             have c35b0 : decide (t341 < 0) = false := decide_eq_false c35
             clear c35
             have H' := Aside0.mk H
             clear H
             have hnb41 := NB333_340.out
             have hnc41 := NB340_333.out
             have hcz42_0 : wr.cell? ⟨gb333, 0, none⟩ = some (.int .i64 t328) := (blk_cell BK333.out 0).trans rfl
             have hcz42_1 : wr.cell? ⟨gb333, 1, none⟩ = some (.bool t329) := (blk_cell BK333.out 1).trans rfl
             have hcz42_2 : wr.cell? ⟨gb333, 2, none⟩ = some (.string t330) := (blk_cell BK333.out 2).trans rfl
             have hcz42_3 : wr.cell? ⟨gb333, 3, none⟩ = some (.string t331) := (blk_cell BK333.out 3).trans rfl
             have hfz42_0 := blk_frozen BK333.out 0
             have hfz42_1 := blk_frozen BK333.out 1
             have hfz42_2 := blk_frozen BK333.out 2
             have hfz42_3 := blk_frozen BK333.out 3
             go_wp2_with (first | (go_at_call 26; (try (rename_i hK_; simp only [List.append] at hK_)); (with_reducible refine (targumref4_Compare.calls k3 x12_3 t331 t341 _ A34.out).mono ?_); rintro e w' ⟨rfl, ⟨nd, rfl⟩⟩))
             go_meet
             case rel => exact ⟨_, (x11_3), (by first | rfl | (simp; done) | (simp [*]; done) | (simp [wrap64]; done)), H', ⟨by have := HJ5.out; have := HJ15.out; have := HK3.out; first | omega | exact Nat.le_refl _⟩, ⟨by (with_reducible repeat (first | refine blk_drewN ?_ _ | refine blk_drew ?_ | refine blk_alloc ?_ _)); exact BK333.out⟩, ⟨by (with_reducible repeat (first | refine blk_drewN ?_ _ | refine blk_drew ?_ | refine blk_alloc ?_ _)); exact BK340.out⟩, ⟨bl⟩⟩
        case rest =>
         clear HC28
         try clear c1; try clear c2; try clear p2; try clear c3; try clear c4; try clear c5; try clear c8; try clear c8b0; try clear c8b1; try clear c9; try clear c9b0; try clear c9b1; try clear c10; try clear c10b0; try clear c10b1; try clear c11; try clear c12; try clear c24; try clear c26; try clear c27; try clear c28; try clear c29; try clear c31; try clear c31b0; try clear c31b1; try clear c32; try clear c35; try clear c35b0; try clear c36; try clear c36b0; try clear c36b1; try clear c36b2; try clear c37; try clear c38; try clear c41; try clear hcz20_0; try clear hcz20_1; try clear hcz20_2; try clear hcz20_3; try clear hcz25_0; try clear hcz25_1; try clear hcz25_2; try clear hcz25_3; try clear hcz30_0; try clear hcz30_1; try clear hcz30_2; try clear hcz30_3; try clear hcz33_0; try clear hcz33_1; try clear hcz33_2; try clear hcz33_3; try clear hcz39_0; try clear hcz39_1; try clear hcz39_2; try clear hcz39_3; try clear hcz42_0; try clear hcz42_1; try clear hcz42_2; try clear hcz42_3; try clear hfz20_0; try clear hfz20_1; try clear hfz20_2; try clear hfz20_3; try clear hfz25_0; try clear hfz25_1; try clear hfz25_2; try clear hfz25_3; try clear hfz30_0; try clear hfz30_1; try clear hfz30_2; try clear hfz30_3; try clear hfz33_0; try clear hfz33_1; try clear hfz33_2; try clear hfz33_3; try clear hfz39_0; try clear hfz39_1; try clear hfz39_2; try clear hfz39_3; try clear hfz42_0; try clear hfz42_1; try clear hfz42_2; try clear hfz42_3; try clear p2
         obtain ⟨kq, x11_27, rfl, HA, HJ27, BK333, BK340, HB⟩ := hcut
         cases kq with
         | zero => exact absurd HA.out (by simp [targumlaw5_DecWhole.j3])
         | succ kj27 =>
          have H := HA.out
          clear HA
          simp only [targumlaw5_DecWhole.j3] at H
          replace H := Option.bind_eq_some_iff.mp H
          obtain ⟨t343, A430, H⟩ := H
          replace H : ((targumref4_Norm.f kj27 false t343).bind fun t344 => (if x11_27.toList = t344.toList then ((targumlaw5_digits.f kj27 a0).bind fun t345 => ((targumref4_Norm.f kj27 false t345).bind fun t346 => ((targumlaw5_digits.f kj27 a1).bind fun t347 => ((targumref4_Norm.f kj27 false t347).bind fun t348 => (some ((t328 == t335 && (t329 == t336 && (t330.toList == t337.toList && (t331.toList == t338.toList)))) == (t346.toList == t348.toList))))))) else (some false))) = some r := H
          have A43 := Aside0.mk A430
          clear A430
          replace H := Option.bind_eq_some_iff.mp H
          obtain ⟨t344, A440, H⟩ := H
          replace H : (if x11_27.toList = t344.toList then ((targumlaw5_digits.f kj27 a0).bind fun t345 => ((targumref4_Norm.f kj27 false t345).bind fun t346 => ((targumlaw5_digits.f kj27 a1).bind fun t347 => ((targumref4_Norm.f kj27 false t347).bind fun t348 => (some ((t328 == t335 && (t329 == t336 && (t330.toList == t337.toList && (t331.toList == t338.toList)))) == (t346.toList == t348.toList))))))) else (some false)) = some r := H
          have A44 := Aside0.mk A440
          clear A440
          by_cases c45 : x11_27.toList = t344.toList
          ·rw [if_pos c45] at H
           have c45b0 : (x11_27.toList == t344.toList) = true := beq_iff_eq.mpr c45
           have c45b1 : (x11_27.toList != t344.toList) = false := bne_eq_false_iff_eq.mpr c45
           clear c45
           replace H := Option.bind_eq_some_iff.mp H
           obtain ⟨t345, A460, H⟩ := H
           replace H : ((targumref4_Norm.f kj27 false t345).bind fun t346 => ((targumlaw5_digits.f kj27 a1).bind fun t347 => ((targumref4_Norm.f kj27 false t347).bind fun t348 => (some ((t328 == t335 && (t329 == t336 && (t330.toList == t337.toList && (t331.toList == t338.toList)))) == (t346.toList == t348.toList)))))) = some r := H
           have A46 := Aside0.mk A460
           clear A460
           replace H := Option.bind_eq_some_iff.mp H
           obtain ⟨t346, A470, H⟩ := H
           replace H : ((targumlaw5_digits.f kj27 a1).bind fun t347 => ((targumref4_Norm.f kj27 false t347).bind fun t348 => (some ((t328 == t335 && (t329 == t336 && (t330.toList == t337.toList && (t331.toList == t338.toList)))) == (t346.toList == t348.toList))))) = some r := H
           have A47 := Aside0.mk A470
           clear A470
           replace H := Option.bind_eq_some_iff.mp H
           obtain ⟨t347, A480, H⟩ := H
           replace H : ((targumref4_Norm.f kj27 false t347).bind fun t348 => (some ((t328 == t335 && (t329 == t336 && (t330.toList == t337.toList && (t331.toList == t338.toList)))) == (t346.toList == t348.toList)))) = some r := H
           have A48 := Aside0.mk A480
           clear A480
           replace H := Option.bind_eq_some_iff.mp H
           obtain ⟨t348, A490, H⟩ := H
           replace H : (some ((t328 == t335 && (t329 == t336 && (t330.toList == t337.toList && (t331.toList == t338.toList)))) == (t346.toList == t348.toList))) = some r := H
           have A49 := Aside0.mk A490
           clear A490
           obtain rfl := Option.some.inj H
           try go_wp2
           have n0_ := Aside0.mk (blk_drew BK333.out)
           have n1_ := Aside0.mk (blk_drew BK340.out)
           have n2_ := Aside0.mk (below_drew1 HB.out)
           clear BK333
           clear BK340
           clear HB
           have BK333 := n0_
           have BK340 := n1_
           have HB := n2_
           clear n0_ n1_ n2_
           refine start_ (n := 19) (S := fun w' => w'.cell? ⟨gb333, 0, none⟩ = some (.int .i64 t328) ∧ w'.cell? ⟨gb333, 1, none⟩ = some (.bool t329) ∧ w'.cell? ⟨gb333, 2, none⟩ = some (.string t330) ∧ w'.cell? ⟨gb333, 3, none⟩ = some (.string t331) ∧ w'.cell? ⟨gb340, 0, none⟩ = some (.int .i64 t335) ∧ w'.cell? ⟨gb340, 1, none⟩ = some (.bool t336) ∧ w'.cell? ⟨gb340, 2, none⟩ = some (.string t337) ∧ w'.cell? ⟨gb340, 3, none⟩ = some (.string t338)) (ds := []) #[false, false, false, false, false, false, false, false, false, false, false, false, false, false, false, false, false, false, false] (by kernel_rfl) rfl rfl ⟨(blk_cell BK333.out 0).trans rfl, (blk_cell BK333.out 1).trans rfl, (blk_cell BK333.out 2).trans rfl, (blk_cell BK333.out 3).trans rfl, (blk_cell BK340.out 0).trans rfl, (blk_cell BK340.out 1).trans rfl, (blk_cell BK340.out 2).trans rfl, (blk_cell BK340.out 3).trans rfl⟩ (fun hHeld => ?_); refine with_tabW targumlaw5_DecWhole.tab14 targumlaw5_DecWhole.bits14 (fun HT_ HW_ => ?_)
           generalize wc.drew = w50 at BK333 BK340 HB hHeld ⊢
           refine pure_ (i := 0) (N := some 69) (v := ?_) (a' := ?_) #[true, false, false, false, false, false, false, false, false, false, false, false, false, false, false, false, false, false, false] rfl rfl (any_of HT_.out (by kernel_rfl)) (fun _ _ _ h => h) (Or.inl ⟨by rfl, ?_⟩) ?_ ?_
           rotate_left
           ·intro w'
            go_simp
            with_reducible rfl
           rotate_left
           ·simp only [Act.put, List.setIfInBounds_toArray, List.set_cons_zero, List.set_cons_succ, i64_w, i32_w]
            rfl
           refine pure_ (i := 1) (N := some 70) (v := ?_) (a' := ?_) #[true, true, false, false, false, false, false, false, false, false, false, false, false, false, false, false, false, false, false] rfl rfl (any_of HT_.out (by kernel_rfl)) (fun _ _ _ h => h) (Or.inl ⟨by rfl, ?_⟩) ?_ ?_
           rotate_left
           ·intro w'
            go_simp
            with_reducible rfl
           rotate_left
           ·simp only [Act.put, List.setIfInBounds_toArray, List.set_cons_zero, List.set_cons_succ, i64_w, i32_w]
            rfl
           refine one_ (i := 2) (N := some 71) #[true, true, true, false, false, false, false, false, false, false, false, false, false, false, false, false, false, false, false] rfl rfl (one_of HT_.out (by kernel_rfl)) (by decide) (fun K hK => ?_)
           refine goes_ Tryd.func37 (by kernel_rfl) rfl #[.string a0] (by rfl) rfl rfl (by (try simp only [List.map_toArray, List.map_cons, List.map_nil]); first | done | rfl | (simp only [List.length_drop, List.length_take]; rfl)) ?_
           with_reducible refine (targumlaw5_digits.calls kj27 a0 t343 _ A43.out).mono ?_
           rintro e w51 ⟨rfl, hb⟩
           refine ⟨_, rfl, ?_⟩
           have n0_ := Aside0.mk (blk_below (g := gb333) (o := .cells #[.int .i64 t328, .bool t329, .string t330, .string t331] 40 (0, 0)) bk hb)
           have n1_ := Aside0.mk (blk_below (g := gb340) (o := .cells #[.int .i64 t335, .bool t336, .string t337, .string t338] 40 (0, 0)) bk hb)
           have n2_ := Aside0.mk (below_step bl hb)
           clear BK333
           clear BK340
           clear HB
           have BK333 := n0_
           have BK340 := n1_
           have HB := n2_
           clear n0_ n1_ n2_
           (try clear hb)
           (try clear hb2)
           (try clear hk)
           (try clear hi)
           refine hK.out _ _ ⟨(blk_cell BK333.out 0).trans rfl, (blk_cell BK333.out 1).trans rfl, (blk_cell BK333.out 2).trans rfl, (blk_cell BK333.out 3).trans rfl, (blk_cell BK340.out 0).trans rfl, (blk_cell BK340.out 1).trans rfl, (blk_cell BK340.out 2).trans rfl, (blk_cell BK340.out 3).trans rfl⟩ (fun hHeld => ?_)
           clear hK K
           refine norm_ (a' := ?_) ?_ ?_
           rotate_left
           ·show Act.put _ (some 71) _ = _
            simp only [Act.put, List.setIfInBounds_toArray, List.set_cons_zero, List.set_cons_succ, i64_w, i32_w]
            rfl
           refine one_ (i := 3) (N := some 72) #[true, true, true, true, false, false, false, false, false, false, false, false, false, false, false, false, false, false, false] rfl rfl (one_of HT_.out (by kernel_rfl)) (by decide) (fun K hK => ?_)
           refine goes_ Tryd.func15 (by kernel_rfl) rfl #[.bool false, .string t343] (by rfl) rfl rfl (by (try simp only [List.map_toArray, List.map_cons, List.map_nil]); first | done | rfl | (simp only [List.length_drop, List.length_take]; rfl)) ?_
           with_reducible refine (targumref4_Norm.calls kj27 false t343 t344 _ A44.out).mono ?_
           rintro e w' ⟨rfl, ⟨nd, rfl⟩⟩
           refine ⟨_, rfl, ?_⟩
           refine hK.out _ _ ⟨(blk_cell BK333.out 0).trans rfl, (blk_cell BK333.out 1).trans rfl, (blk_cell BK333.out 2).trans rfl, (blk_cell BK333.out 3).trans rfl, (blk_cell BK340.out 0).trans rfl, (blk_cell BK340.out 1).trans rfl, (blk_cell BK340.out 2).trans rfl, (blk_cell BK340.out 3).trans rfl⟩ (fun hHeld => ?_)
           clear hK K
           refine norm_ (a' := ?_) ?_ ?_
           rotate_left
           ·show Act.put _ (some 72) _ = _
            simp only [Act.put, List.setIfInBounds_toArray, List.set_cons_zero, List.set_cons_succ, i64_w, i32_w]
            rfl
           refine pure_ (i := 4) (N := some 73) (v := ?_) (a' := ?_) #[true, true, true, true, true, false, false, false, false, false, false, false, false, false, false, false, false, false, false] rfl rfl (any_of HT_.out (by kernel_rfl)) (fun _ _ _ h => h) (Or.inl ⟨by rfl, ?_⟩) ?_ ?_
           rotate_left
           ·intro w'
            go_simp
            with_reducible rfl
           rotate_left
           ·simp only [Act.put, List.setIfInBounds_toArray, List.set_cons_zero, List.set_cons_succ, i64_w, i32_w]
            rfl
           refine pure_ (i := 5) (N := some 74) (v := ?_) (a' := ?_) #[true, true, true, true, true, true, false, false, false, false, false, false, false, false, false, false, false, false, false] rfl rfl (any_of HT_.out (by kernel_rfl)) (fun _ _ _ h => h) (Or.inl ⟨by rfl, ?_⟩) ?_ ?_
           rotate_left
           ·intro w'
            go_simp
            with_reducible rfl
           rotate_left
           ·simp only [Act.put, List.setIfInBounds_toArray, List.set_cons_zero, List.set_cons_succ, i64_w, i32_w]
            rfl
           refine pure_ (i := 9) (N := some 78) (v := ?_) (a' := ?_) #[true, true, true, true, true, true, false, false, false, true, false, false, false, false, false, false, false, false, false] rfl rfl (any_of HT_.out (by kernel_rfl)) (fun _ _ _ h => h) (Or.inl ⟨by rfl, ?_⟩) ?_ ?_
           rotate_left
           ·intro w'
            go_simp
            with_reducible rfl
           rotate_left
           ·simp only [Act.put, List.setIfInBounds_toArray, List.set_cons_zero, List.set_cons_succ, i64_w, i32_w]
            rfl
           refine pure_ (i := 12) (N := some 81) (v := ?_) (a' := ?_) #[true, true, true, true, true, true, false, false, false, true, false, false, true, false, false, false, false, false, false] rfl rfl (any_of HT_.out (by kernel_rfl)) (fun _ _ _ h => h) (Or.inl ⟨by rfl, ?_⟩) ?_ ?_
           rotate_left
           ·intro w'
            go_simp
            with_reducible rfl
           rotate_left
           ·simp only [Act.put, List.setIfInBounds_toArray, List.set_cons_zero, List.set_cons_succ, i64_w, i32_w]
            rfl
           refine take_ (i := 6) (N := some 75) (v := ?_) (a' := ?_) #[true, true, true, true, true, true, true, false, false, true, false, false, true, false, false, false, false, false, false] rfl rfl (take_ofW HT_.out HW_.out (by kernel_rfl)) (fun _ _ _ h => h) (Or.inl ⟨by rfl, ?_⟩) hHeld ?_ ?_
           rotate_left
           ·rintro w' ⟨s0, s1, s2, s3, s4, s5, s6, s7⟩
            go_simp
            with_reducible rfl
           rotate_left
           ·simp only [Act.put, List.setIfInBounds_toArray, List.set_cons_zero, List.set_cons_succ, i64_w, i32_w]
            rfl
           refine take_ (i := 7) (N := some 76) (v := ?_) (a' := ?_) #[true, true, true, true, true, true, true, true, false, true, false, false, true, false, false, false, false, false, false] rfl rfl (take_ofW HT_.out HW_.out (by kernel_rfl)) (fun _ _ _ h => h) (Or.inl ⟨by rfl, ?_⟩) hHeld ?_ ?_
           rotate_left
           ·rintro w' ⟨s0, s1, s2, s3, s4, s5, s6, s7⟩
            go_simp
            with_reducible rfl
           rotate_left
           ·simp only [Act.put, List.setIfInBounds_toArray, List.set_cons_zero, List.set_cons_succ, i64_w, i32_w]
            rfl
           refine pure_ (i := 8) (N := some 77) (v := ?_) (a' := ?_) #[true, true, true, true, true, true, true, true, true, true, false, false, true, false, false, false, false, false, false] rfl rfl (any_of HT_.out (by kernel_rfl)) (fun _ _ _ h => h) (Or.inl ⟨by rfl, ?_⟩) ?_ ?_
           rotate_left
           ·intro w'
            go_simp
            with_reducible rfl
           rotate_left
           ·simp only [Act.put, List.setIfInBounds_toArray, List.set_cons_zero, List.set_cons_succ, i64_w, i32_w]
            rfl
           refine one_ (i := 10) (N := some 79) #[true, true, true, true, true, true, true, true, true, true, true, false, true, false, false, false, false, false, false] rfl rfl (one_of HT_.out (by kernel_rfl)) (by decide) (fun K hK => ?_)
           refine goes_ Tryd.func37 (by kernel_rfl) rfl #[.string a0] (by rfl) rfl rfl (by (try simp only [List.map_toArray, List.map_cons, List.map_nil]); first | done | rfl | (simp only [List.length_drop, List.length_take]; rfl)) ?_
           with_reducible refine (targumlaw5_digits.calls kj27 a0 t345 _ A46.out).mono ?_
           rintro e w52 ⟨rfl, hb⟩
           refine ⟨_, rfl, ?_⟩
           have n0_ := Aside0.mk (blk_below (g := gb333) (o := .cells #[.int .i64 t328, .bool t329, .string t330, .string t331] 40 (0, 0)) bk hb)
           have n1_ := Aside0.mk (blk_below (g := gb340) (o := .cells #[.int .i64 t335, .bool t336, .string t337, .string t338] 40 (0, 0)) bk hb)
           have n2_ := Aside0.mk (below_step bl hb)
           clear BK333
           clear BK340
           clear HB
           have BK333 := n0_
           have BK340 := n1_
           have HB := n2_
           clear n0_ n1_ n2_
           (try clear hb)
           (try clear hb2)
           (try clear hk)
           (try clear hi)
           refine hK.out _ _ ⟨(blk_cell BK333.out 0).trans rfl, (blk_cell BK333.out 1).trans rfl, (blk_cell BK333.out 2).trans rfl, (blk_cell BK333.out 3).trans rfl, (blk_cell BK340.out 0).trans rfl, (blk_cell BK340.out 1).trans rfl, (blk_cell BK340.out 2).trans rfl, (blk_cell BK340.out 3).trans rfl⟩ (fun hHeld => ?_)
           clear hK K
           refine norm_ (a' := ?_) ?_ ?_
           rotate_left
           ·show Act.put _ (some 79) _ = _
            simp only [Act.put, List.setIfInBounds_toArray, List.set_cons_zero, List.set_cons_succ, i64_w, i32_w]
            rfl
           refine one_ (i := 11) (N := some 80) #[true, true, true, true, true, true, true, true, true, true, true, true, true, false, false, false, false, false, false] rfl rfl (one_of HT_.out (by kernel_rfl)) (by decide) (fun K hK => ?_)
           refine goes_ Tryd.func15 (by kernel_rfl) rfl #[.bool false, .string t345] (by rfl) rfl rfl (by (try simp only [List.map_toArray, List.map_cons, List.map_nil]); first | done | rfl | (simp only [List.length_drop, List.length_take]; rfl)) ?_
           with_reducible refine (targumref4_Norm.calls kj27 false t345 t346 _ A47.out).mono ?_
           rintro e w' ⟨rfl, ⟨nd, rfl⟩⟩
           refine ⟨_, rfl, ?_⟩
           refine hK.out _ _ ⟨(blk_cell BK333.out 0).trans rfl, (blk_cell BK333.out 1).trans rfl, (blk_cell BK333.out 2).trans rfl, (blk_cell BK333.out 3).trans rfl, (blk_cell BK340.out 0).trans rfl, (blk_cell BK340.out 1).trans rfl, (blk_cell BK340.out 2).trans rfl, (blk_cell BK340.out 3).trans rfl⟩ (fun hHeld => ?_)
           clear hK K
           refine norm_ (a' := ?_) ?_ ?_
           rotate_left
           ·show Act.put _ (some 80) _ = _
            simp only [Act.put, List.setIfInBounds_toArray, List.set_cons_zero, List.set_cons_succ, i64_w, i32_w]
            rfl
           refine one_ (i := 13) (N := some 82) #[true, true, true, true, true, true, true, true, true, true, true, true, true, true, false, false, false, false, false] rfl rfl (one_of HT_.out (by kernel_rfl)) (by decide) (fun K hK => ?_)
           refine goes_ Tryd.func37 (by kernel_rfl) rfl #[.string a1] (by rfl) rfl rfl (by (try simp only [List.map_toArray, List.map_cons, List.map_nil]); first | done | rfl | (simp only [List.length_drop, List.length_take]; rfl)) ?_
           with_reducible refine (targumlaw5_digits.calls kj27 a1 t347 _ A48.out).mono ?_
           rintro e w53 ⟨rfl, hb⟩
           refine ⟨_, rfl, ?_⟩
           have n0_ := Aside0.mk (blk_below (g := gb333) (o := .cells #[.int .i64 t328, .bool t329, .string t330, .string t331] 40 (0, 0)) bk hb)
           have n1_ := Aside0.mk (blk_below (g := gb340) (o := .cells #[.int .i64 t335, .bool t336, .string t337, .string t338] 40 (0, 0)) bk hb)
           have n2_ := Aside0.mk (below_step bl hb)
           clear BK333
           clear BK340
           clear HB
           have BK333 := n0_
           have BK340 := n1_
           have HB := n2_
           clear n0_ n1_ n2_
           (try clear hb)
           (try clear hb2)
           (try clear hk)
           (try clear hi)
           refine hK.out _ _ ⟨(blk_cell BK333.out 0).trans rfl, (blk_cell BK333.out 1).trans rfl, (blk_cell BK333.out 2).trans rfl, (blk_cell BK333.out 3).trans rfl, (blk_cell BK340.out 0).trans rfl, (blk_cell BK340.out 1).trans rfl, (blk_cell BK340.out 2).trans rfl, (blk_cell BK340.out 3).trans rfl⟩ (fun hHeld => ?_)
           clear hK K
           refine norm_ (a' := ?_) ?_ ?_
           rotate_left
           ·show Act.put _ (some 82) _ = _
            simp only [Act.put, List.setIfInBounds_toArray, List.set_cons_zero, List.set_cons_succ, i64_w, i32_w]
            rfl
           refine one_ (i := 14) (N := some 83) #[true, true, true, true, true, true, true, true, true, true, true, true, true, true, true, false, false, false, false] rfl rfl (one_of HT_.out (by kernel_rfl)) (by decide) (fun K hK => ?_)
           refine goes_ Tryd.func15 (by kernel_rfl) rfl #[.bool false, .string t347] (by rfl) rfl rfl (by (try simp only [List.map_toArray, List.map_cons, List.map_nil]); first | done | rfl | (simp only [List.length_drop, List.length_take]; rfl)) ?_
           with_reducible refine (targumref4_Norm.calls kj27 false t347 t348 _ A49.out).mono ?_
           rintro e w' ⟨rfl, ⟨nd, rfl⟩⟩
           refine ⟨_, rfl, ?_⟩
           refine hK.out _ _ ⟨(blk_cell BK333.out 0).trans rfl, (blk_cell BK333.out 1).trans rfl, (blk_cell BK333.out 2).trans rfl, (blk_cell BK333.out 3).trans rfl, (blk_cell BK340.out 0).trans rfl, (blk_cell BK340.out 1).trans rfl, (blk_cell BK340.out 2).trans rfl, (blk_cell BK340.out 3).trans rfl⟩ (fun hHeld => ?_)
           clear hK K
           refine norm_ (a' := ?_) ?_ ?_
           rotate_left
           ·show Act.put _ (some 83) _ = _
            simp only [Act.put, List.setIfInBounds_toArray, List.set_cons_zero, List.set_cons_succ, i64_w, i32_w]
            rfl
           refine pure_ (i := 15) (N := some 84) (v := ?_) (a' := ?_) #[true, true, true, true, true, true, true, true, true, true, true, true, true, true, true, true, false, false, false] rfl rfl (any_of HT_.out (by kernel_rfl)) (fun _ _ _ h => h) (Or.inl ⟨by rfl, ?_⟩) ?_ ?_
           rotate_left
           ·intro w'
            go_simp
            with_reducible rfl
           rotate_left
           ·simp only [Act.put, List.setIfInBounds_toArray, List.set_cons_zero, List.set_cons_succ, i64_w, i32_w]
            rfl
           refine pure_ (i := 16) (N := some 85) (v := ?_) (a' := ?_) #[true, true, true, true, true, true, true, true, true, true, true, true, true, true, true, true, true, false, false] rfl rfl (any_of HT_.out (by kernel_rfl)) (fun _ _ _ h => h) (Or.inl ⟨by rfl, ?_⟩) ?_ ?_
           rotate_left
           ·intro w'
            go_simp
            with_reducible rfl
           rotate_left
           ·simp only [Act.put, List.setIfInBounds_toArray, List.set_cons_zero, List.set_cons_succ, i64_w, i32_w]
            rfl
           refine pure_ (i := 17) (N := some 86) (v := ?_) (a' := ?_) #[true, true, true, true, true, true, true, true, true, true, true, true, true, true, true, true, true, true, false] rfl rfl (any_of HT_.out (by kernel_rfl)) (fun _ _ _ h => h) (Or.inl ⟨by rfl, ?_⟩) ?_ ?_
           rotate_left
           ·intro w'
            go_simp
            with_reducible rfl
           rotate_left
           ·simp only [Act.put, List.setIfInBounds_toArray, List.set_cons_zero, List.set_cons_succ, i64_w, i32_w]
            rfl
           refine pure_ (i := 18) (N := some 6) (v := ?_) (a' := ?_) #[true, true, true, true, true, true, true, true, true, true, true, true, true, true, true, true, true, true, true] rfl rfl (any_of HT_.out (by kernel_rfl)) (fun _ _ _ h => h) (Or.inl ⟨by rfl, ?_⟩) ?_ ?_
           rotate_left
           ·intro w'
            go_simp
            with_reducible rfl
           rotate_left
           ·simp only [Act.put, List.setIfInBounds_toArray, List.set_cons_zero, List.set_cons_succ, i64_w, i32_w]
            rfl
           refine done_ (done_of HT_.out (by kernel_rfl)) ?_
           try go_wp2
           go_ret
           exact ⟨by first | rfl | (simp [errW_none, errW_some] <;> rfl) | (simp [*, errW_none, errW_some] <;> rfl), bl⟩
          ·rw [if_neg c45] at H
           have c45b0 : (x11_27.toList == t344.toList) = false := beq_eq_false_iff_ne.mpr c45
           have c45b1 : (x11_27.toList != t344.toList) = true := bne_iff_ne.mpr c45
           obtain rfl := Option.some.inj H
           try go_wp2
           have n0_ := Aside0.mk (blk_drew BK333.out)
           have n1_ := Aside0.mk (blk_drew BK340.out)
           have n2_ := Aside0.mk (below_drew1 HB.out)
           clear BK333
           clear BK340
           clear HB
           have BK333 := n0_
           have BK340 := n1_
           have HB := n2_
           clear n0_ n1_ n2_
           refine start_ (n := 19) (S := fun w' => True) (ds := []) #[false, false, false, false, false, false, false, false, false, false, false, false, false, false, false, false, false, false, false] (by kernel_rfl) rfl rfl trivial (fun hHeld => ?_); refine with_tabW targumlaw5_DecWhole.tab14 targumlaw5_DecWhole.bits14 (fun HT_ HW_ => ?_)
           generalize wc.drew = w54 at BK333 BK340 HB hHeld ⊢
           refine pure_ (i := 0) (N := some 69) (v := ?_) (a' := ?_) #[true, false, false, false, false, false, false, false, false, false, false, false, false, false, false, false, false, false, false] rfl rfl (any_of HT_.out (by kernel_rfl)) (fun _ _ _ h => h) (Or.inl ⟨by rfl, ?_⟩) ?_ ?_
           rotate_left
           ·intro w'
            go_simp
            with_reducible rfl
           rotate_left
           ·simp only [Act.put, List.setIfInBounds_toArray, List.set_cons_zero, List.set_cons_succ, i64_w, i32_w]
            rfl
           refine pure_ (i := 1) (N := some 70) (v := ?_) (a' := ?_) #[true, true, false, false, false, false, false, false, false, false, false, false, false, false, false, false, false, false, false] rfl rfl (any_of HT_.out (by kernel_rfl)) (fun _ _ _ h => h) (Or.inl ⟨by rfl, ?_⟩) ?_ ?_
           rotate_left
           ·intro w'
            go_simp
            with_reducible rfl
           rotate_left
           ·simp only [Act.put, List.setIfInBounds_toArray, List.set_cons_zero, List.set_cons_succ, i64_w, i32_w]
            rfl
           refine one_ (i := 2) (N := some 71) #[true, true, true, false, false, false, false, false, false, false, false, false, false, false, false, false, false, false, false] rfl rfl (one_of HT_.out (by kernel_rfl)) (by decide) (fun K hK => ?_)
           refine goes_ Tryd.func37 (by kernel_rfl) rfl #[.string a0] (by rfl) rfl rfl (by (try simp only [List.map_toArray, List.map_cons, List.map_nil]); first | done | rfl | (simp only [List.length_drop, List.length_take]; rfl)) ?_
           with_reducible refine (targumlaw5_digits.calls kj27 a0 t343 _ A43.out).mono ?_
           rintro e w55 ⟨rfl, hb⟩
           refine ⟨_, rfl, ?_⟩
           have n0_ := Aside0.mk (blk_below (g := gb333) (o := .cells #[.int .i64 t328, .bool t329, .string t330, .string t331] 40 (0, 0)) bk hb)
           have n1_ := Aside0.mk (blk_below (g := gb340) (o := .cells #[.int .i64 t335, .bool t336, .string t337, .string t338] 40 (0, 0)) bk hb)
           have n2_ := Aside0.mk (below_step bl hb)
           clear BK333
           clear BK340
           clear HB
           have BK333 := n0_
           have BK340 := n1_
           have HB := n2_
           clear n0_ n1_ n2_
           (try clear hb)
           (try clear hb2)
           (try clear hk)
           (try clear hi)
           refine hK.out _ _ trivial (fun hHeld => ?_)
           clear hK K
           refine norm_ (a' := ?_) ?_ ?_
           rotate_left
           ·show Act.put _ (some 71) _ = _
            simp only [Act.put, List.setIfInBounds_toArray, List.set_cons_zero, List.set_cons_succ, i64_w, i32_w]
            rfl
           refine one_ (i := 3) (N := some 72) #[true, true, true, true, false, false, false, false, false, false, false, false, false, false, false, false, false, false, false] rfl rfl (one_of HT_.out (by kernel_rfl)) (by decide) (fun K hK => ?_)
           refine goes_ Tryd.func15 (by kernel_rfl) rfl #[.bool false, .string t343] (by rfl) rfl rfl (by (try simp only [List.map_toArray, List.map_cons, List.map_nil]); first | done | rfl | (simp only [List.length_drop, List.length_take]; rfl)) ?_
           with_reducible refine (targumref4_Norm.calls kj27 false t343 t344 _ A44.out).mono ?_
           rintro e w' ⟨rfl, ⟨nd, rfl⟩⟩
           refine ⟨_, rfl, ?_⟩
           refine hK.out _ _ trivial (fun hHeld => ?_)
           clear hK K
           refine norm_ (a' := ?_) ?_ ?_
           rotate_left
           ·show Act.put _ (some 72) _ = _
            simp only [Act.put, List.setIfInBounds_toArray, List.set_cons_zero, List.set_cons_succ, i64_w, i32_w]
            rfl
           refine pure_ (i := 4) (N := some 73) (v := ?_) (a' := ?_) #[true, true, true, true, true, false, false, false, false, false, false, false, false, false, false, false, false, false, false] rfl rfl (any_of HT_.out (by kernel_rfl)) (fun _ _ _ h => h) (Or.inl ⟨by rfl, ?_⟩) ?_ ?_
           rotate_left
           ·intro w'
            go_simp
            with_reducible rfl
           rotate_left
           ·simp only [Act.put, List.setIfInBounds_toArray, List.set_cons_zero, List.set_cons_succ, i64_w, i32_w]
            rfl
           refine pure_ (i := 5) (N := some 74) (v := ?_) (a' := ?_) #[true, true, true, true, true, true, false, false, false, false, false, false, false, false, false, false, false, false, false] rfl rfl (any_of HT_.out (by kernel_rfl)) (fun _ _ _ h => h) (Or.inl ⟨by rfl, ?_⟩) ?_ ?_
           rotate_left
           ·intro w'
            go_simp
            with_reducible rfl
           rotate_left
           ·simp only [Act.put, List.setIfInBounds_toArray, List.set_cons_zero, List.set_cons_succ, i64_w, i32_w]
            rfl
           refine pure_ (i := 6) (N := some 75) (v := undef) (a' := ?_) #[true, true, true, true, true, true, true, false, false, false, false, false, false, false, false, false, false, false, false] rfl rfl (any_of HT_.out (by kernel_rfl)) (fun _ _ _ h => h) (Or.inr ⟨by rfl, rfl⟩) ?_ ?_
           rotate_left
           ·simp only [Act.put, List.setIfInBounds_toArray, List.set_cons_zero, List.set_cons_succ, i64_w, i32_w]
            rfl
           refine pure_ (i := 7) (N := some 76) (v := undef) (a' := ?_) #[true, true, true, true, true, true, true, true, false, false, false, false, false, false, false, false, false, false, false] rfl rfl (any_of HT_.out (by kernel_rfl)) (fun _ _ _ h => h) (Or.inr ⟨by rfl, rfl⟩) ?_ ?_
           rotate_left
           ·simp only [Act.put, List.setIfInBounds_toArray, List.set_cons_zero, List.set_cons_succ, i64_w, i32_w]
            rfl
           refine pure_ (i := 8) (N := some 77) (v := undef) (a' := ?_) #[true, true, true, true, true, true, true, true, true, false, false, false, false, false, false, false, false, false, false] rfl rfl (any_of HT_.out (by kernel_rfl)) (fun _ _ _ h => h) (Or.inr ⟨by rfl, rfl⟩) ?_ ?_
           rotate_left
           ·simp only [Act.put, List.setIfInBounds_toArray, List.set_cons_zero, List.set_cons_succ, i64_w, i32_w]
            rfl
           refine pure_ (i := 9) (N := some 78) (v := undef) (a' := ?_) #[true, true, true, true, true, true, true, true, true, true, false, false, false, false, false, false, false, false, false] rfl rfl (any_of HT_.out (by kernel_rfl)) (fun _ _ _ h => h) (Or.inr ⟨by rfl, rfl⟩) ?_ ?_
           rotate_left
           ·simp only [Act.put, List.setIfInBounds_toArray, List.set_cons_zero, List.set_cons_succ, i64_w, i32_w]
            rfl
           refine pure_ (i := 10) (N := some 79) (v := undef) (a' := ?_) #[true, true, true, true, true, true, true, true, true, true, true, false, false, false, false, false, false, false, false] rfl rfl (any_of HT_.out (by kernel_rfl)) (fun _ _ _ h => h) (Or.inr ⟨by rfl, rfl⟩) ?_ ?_
           rotate_left
           ·simp only [Act.put, List.setIfInBounds_toArray, List.set_cons_zero, List.set_cons_succ, i64_w, i32_w]
            rfl
           refine pure_ (i := 11) (N := some 80) (v := undef) (a' := ?_) #[true, true, true, true, true, true, true, true, true, true, true, true, false, false, false, false, false, false, false] rfl rfl (any_of HT_.out (by kernel_rfl)) (fun _ _ _ h => h) (Or.inr ⟨by rfl, rfl⟩) ?_ ?_
           rotate_left
           ·simp only [Act.put, List.setIfInBounds_toArray, List.set_cons_zero, List.set_cons_succ, i64_w, i32_w]
            rfl
           refine pure_ (i := 12) (N := some 81) (v := undef) (a' := ?_) #[true, true, true, true, true, true, true, true, true, true, true, true, true, false, false, false, false, false, false] rfl rfl (any_of HT_.out (by kernel_rfl)) (fun _ _ _ h => h) (Or.inr ⟨by rfl, rfl⟩) ?_ ?_
           rotate_left
           ·simp only [Act.put, List.setIfInBounds_toArray, List.set_cons_zero, List.set_cons_succ, i64_w, i32_w]
            rfl
           refine pure_ (i := 13) (N := some 82) (v := undef) (a' := ?_) #[true, true, true, true, true, true, true, true, true, true, true, true, true, true, false, false, false, false, false] rfl rfl (any_of HT_.out (by kernel_rfl)) (fun _ _ _ h => h) (Or.inr ⟨by rfl, rfl⟩) ?_ ?_
           rotate_left
           ·simp only [Act.put, List.setIfInBounds_toArray, List.set_cons_zero, List.set_cons_succ, i64_w, i32_w]
            rfl
           refine pure_ (i := 14) (N := some 83) (v := undef) (a' := ?_) #[true, true, true, true, true, true, true, true, true, true, true, true, true, true, true, false, false, false, false] rfl rfl (any_of HT_.out (by kernel_rfl)) (fun _ _ _ h => h) (Or.inr ⟨by rfl, rfl⟩) ?_ ?_
           rotate_left
           ·simp only [Act.put, List.setIfInBounds_toArray, List.set_cons_zero, List.set_cons_succ, i64_w, i32_w]
            rfl
           refine pure_ (i := 15) (N := some 84) (v := undef) (a' := ?_) #[true, true, true, true, true, true, true, true, true, true, true, true, true, true, true, true, false, false, false] rfl rfl (any_of HT_.out (by kernel_rfl)) (fun _ _ _ h => h) (Or.inr ⟨by rfl, rfl⟩) ?_ ?_
           rotate_left
           ·simp only [Act.put, List.setIfInBounds_toArray, List.set_cons_zero, List.set_cons_succ, i64_w, i32_w]
            rfl
           refine pure_ (i := 16) (N := some 85) (v := undef) (a' := ?_) #[true, true, true, true, true, true, true, true, true, true, true, true, true, true, true, true, true, false, false] rfl rfl (any_of HT_.out (by kernel_rfl)) (fun _ _ _ h => h) (Or.inr ⟨by rfl, rfl⟩) ?_ ?_
           rotate_left
           ·simp only [Act.put, List.setIfInBounds_toArray, List.set_cons_zero, List.set_cons_succ, i64_w, i32_w]
            rfl
           refine pure_ (i := 17) (N := some 86) (v := ?_) (a' := ?_) #[true, true, true, true, true, true, true, true, true, true, true, true, true, true, true, true, true, true, false] rfl rfl (any_of HT_.out (by kernel_rfl)) (fun _ _ _ h => h) (Or.inl ⟨by rfl, ?_⟩) ?_ ?_
           rotate_left
           ·intro w'
            go_simp
            with_reducible rfl
           rotate_left
           ·simp only [Act.put, List.setIfInBounds_toArray, List.set_cons_zero, List.set_cons_succ, i64_w, i32_w]
            rfl
           refine pure_ (i := 18) (N := some 6) (v := ?_) (a' := ?_) #[true, true, true, true, true, true, true, true, true, true, true, true, true, true, true, true, true, true, true] rfl rfl (any_of HT_.out (by kernel_rfl)) (fun _ _ _ h => h) (Or.inl ⟨by rfl, ?_⟩) ?_ ?_
           rotate_left
           ·intro w'
            go_simp
            with_reducible rfl
           rotate_left
           ·simp only [Act.put, List.setIfInBounds_toArray, List.set_cons_zero, List.set_cons_succ, i64_w, i32_w]
            rfl
           refine done_ (done_of HT_.out (by kernel_rfl)) ?_
           try go_wp2
           go_ret
           exact ⟨by first | rfl | (simp [errW_none, errW_some] <;> rfl) | (simp [*, errW_none, errW_some] <;> rfl), bl⟩
 ·replace c5 := Bool.eq_false_iff.mpr c5
  subst c5
  have H1 : (some false) = some r := by rw [if_neg (show ¬ (false = true) by decide)] at H; exact H
  clear H
  have H := H1
  clear H1
  obtain rfl := Option.some.inj H
  go_enter Tryd.func12, Tryd.ntmps12
  go_wp2_with (first | ((with_reducible refine gate_callee (f := 28) rfl ?_); refine goesL_ (some 13) rfl rfl Tryd.func28 (by kernel_rfl) rfl #[] rfl (by (try simp only [List.map_toArray, List.map_cons, List.map_nil]); first | done | rfl | (simp only [List.length_drop, List.length_take]; rfl)) ?_; (with_reducible refine (targumlaw5_known.calls k  false _ ?side1 A4.out).mono ?_); (case side1 => exact Go.Proofs.YtddaggnomcoejaaDoor.PDT.Tabs_below HG.out bl); rintro e w56 ⟨rfl, hb⟩; refine ⟨_, rfl, ?_⟩; have n0_ := Aside0.mk (below_step bl hb); clear HB; have HB := n0_; clear n0_; (try clear hb); (try clear hb2); (try clear hk); (try clear hi)))
  go_ret
  exact ⟨by first | rfl | (simp [errW_none, errW_some] <;> rfl) | (simp [*, errW_none, errW_some] <;> rfl), bl⟩

/-- THE ONE PURE STATEMENT of targumlaw5_DecWhole: yours. -/
def targumlaw5_DecWhole.Pure : Prop := ∀ (a0 : ByteArray) (a1 : ByteArray) (a2 : Bool), a0.size ≤ 140737488351232 → a1.size ≤ 140737488351232 → ∃ k, targumlaw5_DecWhole.f k a0 a1 a2 = some true
theorem targumlaw5_DecWhole.walk (P : targumlaw5_DecWhole.Pure) (a0 : ByteArray) (a1 : ByteArray) (a2 : Bool) (w : World) (w0 : a0.size ≤ 140737488351232) (w1 : a1.size ≤ 140737488351232) (hG : Go.Proofs.YtddaggnomcoejaaDoor.PDT.Tabs w) :
  Calls Tryd.prog 12 #[.string a0, .string a1, .bool a2] w fun e w' => e = .returned (.bool true) ∧ Below w.heap.size w w' := by
 obtain ⟨k, h⟩ := P a0 a1 a2 w0 w1
 refine (targumlaw5_DecWhole.calls k a0 a1 a2 true w hG h).mono ?_
 rintro e w' ⟨rfl, hd⟩
 exact ⟨rfl, hd⟩

end Go.Proofs.YtddaggnomcoejaaDoor.PD
