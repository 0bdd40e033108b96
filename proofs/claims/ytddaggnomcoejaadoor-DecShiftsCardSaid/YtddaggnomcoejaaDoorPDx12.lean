/- Written by this session's own program (xprint, made over the kit's print): Lean functions with the same answers as the Go functions, and the proofs of that. Not trusted: Lean checks it. -/
import Derived.Test.YtddaggnomcoejaaDoorPDx0
import Derived.Test.YtddaggnomcoejaaDoorPDx1
import Derived.Test.YtddaggnomcoejaaDoorPDx3
import Derived.Test.YtddaggnomcoejaaDoorPDx4
import Derived.Test.YtddaggnomcoejaaDoorPDx6
import Derived.Test.YtddaggnomcoejaaDoorPDx11
import Derived.Test.YtddaggnomcoejaaDoorXW
namespace Go.Proofs.YtddaggnomcoejaaDoor.PD
open Go.Proofs.YtddaggnomcoejaaDoor.XW Go.RowKit Go.Proofs.YtddaggnomcoejaaDoorW.PrintWords Go.Proofs.YtddaggnomcoejaaDoorW.PrintLast Go.Proofs.YtddaggnomcoejaaDoorW.PrintMore
attribute [local go_sem] max2_int min2_int max_two min_two max_three min_three max_four min_four   -- for this text's walks alone
set_option linter.unusedVariables false
set_option linter.unusedSimpArgs false

attribute [local go_sem high] eqA40
/-! ### targumlaw5_DecShifts: function 11 -/
mutual
def targumlaw5_DecShifts.j0 : Nat → ByteArray → ByteArray → Bool → Int → Int → Bool → Option (Bool)
 | 0, _, _, _, _, _, _ => none
 | k + 1, x0, x1, x2, x3, x4, x43 => if x43 = true then (some true) else (targumlaw5_DecShifts.l0 k x0 x1 x2 x3 x4 (⟨#[]⟩ : ByteArray) 0)
def targumlaw5_DecShifts.l0 : Nat → ByteArray → ByteArray → Bool → Int → Int → ByteArray → Int → Option (Bool)
 | 0, _, _, _, _, _, _, _ => none
 | k + 1, x0, x1, x2, x3, x4, x11, x12 => if x12 < (wrap64 (Int.tmod x4 9)) then (if x11.size + 1 ≤ 9223372036854775807 then (targumlaw5_DecShifts.l0 k x0 x1 x2 x3 x4 (x11 ++ (⟨#[48]⟩ : ByteArray)) (wrap64 (x12 + 1))) else (none)) else ((targumlaw5_digits.f k x0).bind fun t285 => ((targumlaw5_digits.f k x1).bind fun t286 => ((targumref4_Add.f k (⟨#[48]⟩ : ByteArray) (wrap64 (x3))).bind fun t287 => ((dec_Make.f k x2 t285 t286 t287).bind fun bt288 => (if x11.size + t285.size ≤ 9223372036854775807 then (if t286.size + x11.size ≤ 9223372036854775807 then ((dec_Make.f k x2 (x11 ++ t285) (t286 ++ x11) t287).bind fun bt294 => (if t285.size + t286.size ≤ 9223372036854775807 then ((targumref4_Add.f k t287 (wrap64 (-(t286.size : Int)))).bind fun t300 => ((dec_Make.f k x2 (t285 ++ t286) (⟨#[]⟩ : ByteArray) t300).bind fun bt301 => ((targumref4_Add.f k t287 (t285.size : Int)).bind fun t307 => ((dec_Make.f k x2 (⟨#[]⟩ : ByteArray) (t285 ++ t286) t307).bind fun bt308 => (if (t285 ++ t286).size + x11.size ≤ 9223372036854775807 then ((targumref4_Add.f k t287 (wrap64 ((wrap64 (-(t286.size : Int))) - (x11.size : Int)))).bind fun t314 => ((dec_Make.f k x2 ((t285 ++ t286) ++ x11) (⟨#[]⟩ : ByteArray) t314).bind fun bt315 => (if bt288.2.2.2.2 = true then (if bt294.2.2.2.2 = true then (if bt301.2.2.2.2 = true then (if bt308.2.2.2.2 = true then (if bt315.2.2.2.2 = true then (if (bt288.1 == bt294.1 && (bt288.2.1 == bt294.2.1 && (bt288.2.2.1.toList == bt294.2.2.1.toList && (bt288.2.2.2.1.toList == bt294.2.2.2.1.toList)))) = true then (if (bt288.1 == bt301.1 && (bt288.2.1 == bt301.2.1 && (bt288.2.2.1.toList == bt301.2.2.1.toList && (bt288.2.2.2.1.toList == bt301.2.2.2.1.toList)))) = true then (if (bt288.1 == bt308.1 && (bt288.2.1 == bt308.2.1 && (bt288.2.2.1.toList == bt308.2.2.1.toList && (bt288.2.2.2.1.toList == bt308.2.2.2.1.toList)))) = true then (if (bt288.1 == bt315.1 && (bt288.2.1 == bt315.2.1 && (bt288.2.2.1.toList == bt315.2.2.1.toList && (bt288.2.2.2.1.toList == bt315.2.2.2.1.toList)))) = true then ((dec_Good.f k bt288.1 bt288.2.1 bt288.2.2.1 bt288.2.2.2.1).bind fun t321 => (if t321 = true then (if (bt288.2.1 == x2) = true then (some (bt288.1 == 0)) else (some false)) else (some false))) else (some false)) else (some false)) else (some false)) else (some false)) else (some false)) else (some false)) else (some false)) else (some false)) else (some false)))) else (none)))))) else (none))) else (none)) else (none))))))
end
def targumlaw5_DecShifts.f (k : Nat) (a0 : ByteArray) (a1 : ByteArray) (a2 : Bool) (a3 : Int) (a4 : Int) : Option (Bool) := (targumlaw5_known.f k).bind fun t284 => (if t284 = true then (if (wrap64 ((a0.size : Int) + (a1.size : Int))) < 1 then (targumlaw5_DecShifts.j0 k a0 a1 a2 a3 a4 true) else (if (a0.size : Int) > 40 then (targumlaw5_DecShifts.j0 k a0 a1 a2 a3 a4 true) else (targumlaw5_DecShifts.j0 k a0 a1 a2 a3 a4 (decide ((a1.size : Int) > 40))))) else (some false))
theorem targumlaw5_DecShifts.mono_l : ∀ k, (∀ y0 y1 y2 y3 y4 y5, LeO (targumlaw5_DecShifts.j0 k y0 y1 y2 y3 y4 y5) (targumlaw5_DecShifts.j0 (k + 1) y0 y1 y2 y3 y4 y5)) ∧ (∀ y0 y1 y2 y3 y4 y5 y6, LeO (targumlaw5_DecShifts.l0 k y0 y1 y2 y3 y4 y5 y6) (targumlaw5_DecShifts.l0 (k + 1) y0 y1 y2 y3 y4 y5 y6))
 | 0 => ⟨fun _ _ _ _ _ _ r h => by simp [targumlaw5_DecShifts.j0] at h, fun _ _ _ _ _ _ _ r h => by simp [targumlaw5_DecShifts.l0] at h⟩
 | k + 1 => by
  obtain ⟨ih0, ih1⟩ := targumlaw5_DecShifts.mono_l k
  refine ⟨?_, ?_⟩
  ·intro y0 y1 y2 y3 y4 y5
   unfold targumlaw5_DecShifts.j0
   repeat' first
   | (with_reducible exact ih0 _ _ _ _ _ _)
   | (with_reducible exact ih1 _ _ _ _ _ _ _)
   | (with_reducible exact dec_Good.mono _ _ _ _ _)
   | (with_reducible exact dec_Make.mono _ _ _ _ _)
   | (with_reducible exact targumlaw5_digits.mono _ _)
   | (with_reducible exact targumlaw5_known.mono _)
   | (with_reducible exact targumref4_Add.mono _ _ _)
   | (with_reducible exact LeO.refl _)
   | (with_reducible exact LeO.none _)
   | (with_reducible refine LeO.ite ?_ ?_)
   | (with_reducible refine LeO.bind ?_ (fun _ => ?_))
   | exact ih0 _ _ _ _ _ _
   | exact ih1 _ _ _ _ _ _ _
   | exact dec_Good.mono _ _ _ _ _
   | exact dec_Make.mono _ _ _ _ _
   | exact targumlaw5_digits.mono _ _
   | exact targumlaw5_known.mono _
   | exact targumref4_Add.mono _ _ _
   | exact LeO.none _
   | refine LeO.ite ?_ ?_
   | refine LeO.bind ?_ (fun _ => ?_)
  ·intro y0 y1 y2 y3 y4 y5 y6
   unfold targumlaw5_DecShifts.l0
   repeat' first
   | (with_reducible exact ih0 _ _ _ _ _ _)
   | (with_reducible exact ih1 _ _ _ _ _ _ _)
   | (with_reducible exact dec_Good.mono _ _ _ _ _)
   | (with_reducible exact dec_Make.mono _ _ _ _ _)
   | (with_reducible exact targumlaw5_digits.mono _ _)
   | (with_reducible exact targumlaw5_known.mono _)
   | (with_reducible exact targumref4_Add.mono _ _ _)
   | (with_reducible exact LeO.refl _)
   | (with_reducible exact LeO.none _)
   | (with_reducible refine LeO.ite ?_ ?_)
   | (with_reducible refine LeO.bind ?_ (fun _ => ?_))
   | exact ih0 _ _ _ _ _ _
   | exact ih1 _ _ _ _ _ _ _
   | exact dec_Good.mono _ _ _ _ _
   | exact dec_Make.mono _ _ _ _ _
   | exact targumlaw5_digits.mono _ _
   | exact targumlaw5_known.mono _
   | exact targumref4_Add.mono _ _ _
   | exact LeO.none _
   | refine LeO.ite ?_ ?_
   | refine LeO.bind ?_ (fun _ => ?_)
theorem targumlaw5_DecShifts.mono : ∀ a0 a1 a2 a3 a4 k, LeO (targumlaw5_DecShifts.f k a0 a1 a2 a3 a4) (targumlaw5_DecShifts.f (k + 1) a0 a1 a2 a3 a4) := by
 intro a0 a1 a2 a3 a4 k
 obtain ⟨ih0, ih1⟩ := targumlaw5_DecShifts.mono_l k
 unfold targumlaw5_DecShifts.f
 repeat' first
   | (with_reducible exact ih0 _ _ _ _ _ _)
   | (with_reducible exact ih1 _ _ _ _ _ _ _)
   | (with_reducible exact dec_Good.mono _ _ _ _ _)
   | (with_reducible exact dec_Make.mono _ _ _ _ _)
   | (with_reducible exact targumlaw5_digits.mono _ _)
   | (with_reducible exact targumlaw5_known.mono _)
   | (with_reducible exact targumref4_Add.mono _ _ _)
   | (with_reducible exact LeO.refl _)
   | (with_reducible exact LeO.none _)
   | (with_reducible refine LeO.ite ?_ ?_)
   | (with_reducible refine LeO.bind ?_ (fun _ => ?_))
   | exact ih0 _ _ _ _ _ _
   | exact ih1 _ _ _ _ _ _ _
   | exact dec_Good.mono _ _ _ _ _
   | exact dec_Make.mono _ _ _ _ _
   | exact targumlaw5_digits.mono _ _
   | exact targumlaw5_known.mono _
   | exact targumref4_Add.mono _ _ _
   | exact LeO.none _
   | refine LeO.ite ?_ ?_
   | refine LeO.bind ?_ (fun _ => ?_)
set_option maxHeartbeats 40000000 in
set_option maxRecDepth 100000 in
theorem targumlaw5_DecShifts.calls (k : Nat) (a0 : ByteArray) (a1 : ByteArray) (a2 : Bool) (a3 : Int) (a4 : Int) (r : Bool) (w : World) (hG : Go.Proofs.YtddaggnomcoejaaDoor.PDT.Tabs w) (h : targumlaw5_DecShifts.f k a0 a1 a2 a3 a4 = some r) :
  Calls Tryd.prog 11 #[.string a0, .string a1, .bool a2, .int .i32 a3, .int .u8 a4] w fun e w' => e = .returned (.bool r) ∧ Below w.heap.size w w' := by
 have hu40 := Tryd.underlying40
 have HG := Aside0.mk hG
 clear hG
 have HB := Aside0.mk (Below.refl w.heap.size w)
 have H : ((targumlaw5_known.f k).bind fun t284 => (if t284 = true then (if (wrap64 ((a0.size : Int) + (a1.size : Int))) < 1 then (targumlaw5_DecShifts.j0 k a0 a1 a2 a3 a4 true) else (if (a0.size : Int) > 40 then (targumlaw5_DecShifts.j0 k a0 a1 a2 a3 a4 true) else (targumlaw5_DecShifts.j0 k a0 a1 a2 a3 a4 (decide ((a1.size : Int) > 40))))) else (some false))) = some r := h
 clear h
 replace H := Option.bind_eq_some_iff.mp H
 obtain ⟨t284, A60, H⟩ := H
 replace H : (if t284 = true then (if (wrap64 ((a0.size : Int) + (a1.size : Int))) < 1 then (targumlaw5_DecShifts.j0 k a0 a1 a2 a3 a4 true) else (if (a0.size : Int) > 40 then (targumlaw5_DecShifts.j0 k a0 a1 a2 a3 a4 true) else (targumlaw5_DecShifts.j0 k a0 a1 a2 a3 a4 (decide ((a1.size : Int) > 40))))) else (some false)) = some r := H
 have A6 := Aside0.mk A60
 clear A60
 by_cases c7 : t284 = true
 ·subst c7
  have H1 : (if (wrap64 ((a0.size : Int) + (a1.size : Int))) < 1 then (targumlaw5_DecShifts.j0 k a0 a1 a2 a3 a4 true) else (if (a0.size : Int) > 40 then (targumlaw5_DecShifts.j0 k a0 a1 a2 a3 a4 true) else (targumlaw5_DecShifts.j0 k a0 a1 a2 a3 a4 (decide ((a1.size : Int) > 40))))) = some r := by rw [if_pos rfl] at H; exact H
  clear H
  have H := H1
  clear H1
  have HC8 := Aside0.mk H
  clear H
  go_enter Tryd.func11, Tryd.ntmps11
  go_upto_region 3 with (first | ((with_reducible refine gate_callee (f := 28) rfl ?_); refine goesL_ (some 26) rfl rfl Tryd.func28 (by kernel_rfl) rfl #[] rfl (by (try simp only [List.map_toArray, List.map_cons, List.map_nil]); first | done | rfl | (simp only [List.length_drop, List.length_take]; rfl)) ?_; (with_reducible refine (targumlaw5_known.calls k  true _ ?side1 A6.out).mono ?_); (case side1 => exact Go.Proofs.YtddaggnomcoejaaDoor.PDT.Tabs_below HG.out bl); rintro e w9 ⟨rfl, hb⟩; refine ⟨_, rfl, ?_⟩; have n0_ := Aside0.mk (below_step bl hb); clear HB; have HB := n0_; clear n0_; (try clear hb); (try clear hb2); (try clear hk); (try clear hi)))
  (try simp only [Act.put, List.setIfInBounds_toArray, List.set_cons_zero, List.set_cons_succ])
  go_cut [43] (fun v43 wc => ∃ (kq : Nat) (x43_7 : Bool), v43 = .bool x43_7 ∧ Aside0 (targumlaw5_DecShifts.j0 kq a0 a1 a2 a3 a4 x43_7 = some r) ∧ Aside0 (kq ≤ k) ∧ Aside0 (Below w.heap.size w wc))
  case first =>
   have H := HC8.out
   clear HC8
   by_cases c10 : (wrap64 ((a0.size : Int) + (a1.size : Int))) < 1
   ·rw [if_pos c10] at H
    have c10b0 : decide ((wrap64 ((a0.size : Int) + (a1.size : Int))) < 1) = true := decide_eq_true c10
    clear c10
    (first | rw [c10b0] | (simp only [i64_w, i32_w]; rw [c10b0]) | skip)
    have H' := Aside0.mk H
    clear H
    go_wp2
    go_meet
    case rel => exact ⟨_, (true), (by first | rfl | (simp; done) | (simp [*]; done) | (simp [wrap64]; done)), H', ⟨by first | omega | exact Nat.le_refl _⟩, ⟨bl⟩⟩
   ·rw [if_neg c10] at H
    have c10b0 : decide ((wrap64 ((a0.size : Int) + (a1.size : Int))) < 1) = false := decide_eq_false c10
    clear c10
    (first | rw [c10b0] | (simp only [i64_w, i32_w]; rw [c10b0]) | skip)
    by_cases c11 : (a0.size : Int) > 40
    ·rw [if_pos c11] at H
     have c11b0 : decide (40 < (a0.size : Int)) = true := decide_eq_true c11
     have c11b1 : decide (40 < a0.size) = true := decide_eq_true (by omega)
     clear c11
     have H' := Aside0.mk H
     clear H
     go_wp2
     go_meet
     case rel => exact ⟨_, (true), (by first | rfl | (simp; done) | (simp [*]; done) | (simp [wrap64]; done)), H', ⟨by first | omega | exact Nat.le_refl _⟩, ⟨bl⟩⟩
    ·rw [if_neg c11] at H
     have c11b0 : decide (40 < (a0.size : Int)) = false := decide_eq_false c11
     have c11b1 : decide (40 < a0.size) = false := decide_eq_false (by omega)
     clear c11
     have H' := Aside0.mk H
     clear H
     go_wp2
     go_meet
     case rel => exact ⟨_, (decide ((a1.size : Int) > 40)), (by first | rfl | (simp; done) | (simp [*]; done) | (simp [wrap64]; done)), H', ⟨by first | omega | exact Nat.le_refl _⟩, ⟨bl⟩⟩
  case rest =>
   clear HC8
   try clear c1; try clear c2; try clear p2; try clear p6; try clear c7; try clear c10; try clear c10b0; try clear c11; try clear c11b0; try clear c11b1
   obtain ⟨kq, x43_7, rfl, HA, HJ7, HB⟩ := hcut
   cases kq with
   | zero => exact absurd HA.out (by simp [targumlaw5_DecShifts.j0])
   | succ kj7 =>
    have H := HA.out
    clear HA
    simp only [targumlaw5_DecShifts.j0] at H
    by_cases c12 : x43_7 = true
    ·subst c12
     have H1 : (some true) = some r := by rw [if_pos rfl] at H; exact H
     clear H
     have H := H1
     clear H1
     obtain rfl := Option.some.inj H
     go_wp2
     go_ret
     exact ⟨by first | rfl | (simp [errW_none, errW_some] <;> rfl) | (simp [*, errW_none, errW_some] <;> rfl), bl⟩
    ·replace c12 := Bool.eq_false_iff.mpr c12
     subst c12
     have H1 : (targumlaw5_DecShifts.l0 kj7 a0 a1 a2 a3 a4 (⟨#[]⟩ : ByteArray) 0) = some r := by rw [if_neg (show ¬ (false = true) by decide)] at H; exact H
     clear H
     have H := H1
     clear H1
     have H' := Aside0.mk H
     clear H
     go_wp2
     go_loopg [11, 12] kj7 (fun kq v11 v12 w' => ∃ (x11_2 : ByteArray) (x12_2 : Int), v11 = .string x11_2 ∧ v12 = .int .i64 x12_2 ∧ Aside0 (targumlaw5_DecShifts.l0 kq a0 a1 a2 a3 a4 x11_2 x12_2 = some r) ∧ Aside0 (kq ≤ kj7) ∧ Aside0 (Below w.heap.size w w'))
     case atStart => exact ⟨((⟨#[]⟩ : ByteArray)), (0), (by first | rfl | (simp; done) | (simp [*]; done) | (simp [wrap64]; done)), (by first | rfl | (simp; done) | (simp [*]; done) | (simp [wrap64]; done)), H', ⟨Nat.le_refl _⟩, ⟨bl⟩⟩
     case round =>
      clear H'
      try clear c1; try clear c2; try clear p2; try clear p6; try clear c7; try clear c10; try clear c10b0; try clear c11; try clear c11b0; try clear c11b1; try clear c12; try clear p2; try clear p6
      obtain ⟨x11_2, x12_2, rfl, rfl, HA, HK2, HB⟩ := hrel
      cases gk with
      | zero => exact absurd HA.out (by simp [targumlaw5_DecShifts.l0])
      | succ k2 =>
       have H := HA.out
       clear HA
       simp only [targumlaw5_DecShifts.l0] at H
       by_cases c13 : x12_2 < (wrap64 (Int.tmod a4 9))
       ·rw [if_pos c13] at H
        have c13b0 : decide (x12_2 < (wrap64 (Int.tmod a4 9))) = true := decide_eq_true c13
        clear c13
        by_cases c14 : x11_2.size + 1 ≤ 9223372036854775807
        ·rw [if_pos c14] at H
         have c14b0 := eq_true c14
         have c14b1 : decide (x11_2.size + 1 ≤ 9223372036854775807) = true := decide_eq_true c14
         try have c14b2 : (9223372036854775807 < x11_2.size + 1) = False := eq_false (Nat.not_lt.2 c14)
         have H' := Aside0.mk H
         clear H
         go_wp2
         go_roundg k2
         case measure => have := HJ7.out; have := HK2.out; omega
         case rel => exact ⟨(x11_2 ++ (⟨#[48]⟩ : ByteArray)), (wrap64 (x12_2 + 1)), (by first | rfl | (simp; done) | (simp [*]; done) | (simp [wrap64]; done)), (by first | rfl | (simp; done) | (simp [*]; done) | (simp [wrap64]; done)), H', ⟨by have := HJ7.out; have := HK2.out; omega⟩, ⟨bl⟩⟩
        ·rw [if_neg c14] at H
         exact absurd H (by simp)
       ·rw [if_neg c13] at H
        have c13b0 : decide (x12_2 < (wrap64 (Int.tmod a4 9))) = false := decide_eq_false c13
        clear c13
        replace H := Option.bind_eq_some_iff.mp H
        obtain ⟨t285, A150, H⟩ := H
        replace H : ((targumlaw5_digits.f k2 a1).bind fun t286 => ((targumref4_Add.f k2 (⟨#[48]⟩ : ByteArray) (wrap64 (a3))).bind fun t287 => ((dec_Make.f k2 a2 t285 t286 t287).bind fun bt288 => (if x11_2.size + t285.size ≤ 9223372036854775807 then (if t286.size + x11_2.size ≤ 9223372036854775807 then ((dec_Make.f k2 a2 (x11_2 ++ t285) (t286 ++ x11_2) t287).bind fun bt294 => (if t285.size + t286.size ≤ 9223372036854775807 then ((targumref4_Add.f k2 t287 (wrap64 (-(t286.size : Int)))).bind fun t300 => ((dec_Make.f k2 a2 (t285 ++ t286) (⟨#[]⟩ : ByteArray) t300).bind fun bt301 => ((targumref4_Add.f k2 t287 (t285.size : Int)).bind fun t307 => ((dec_Make.f k2 a2 (⟨#[]⟩ : ByteArray) (t285 ++ t286) t307).bind fun bt308 => (if (t285 ++ t286).size + x11_2.size ≤ 9223372036854775807 then ((targumref4_Add.f k2 t287 (wrap64 ((wrap64 (-(t286.size : Int))) - (x11_2.size : Int)))).bind fun t314 => ((dec_Make.f k2 a2 ((t285 ++ t286) ++ x11_2) (⟨#[]⟩ : ByteArray) t314).bind fun bt315 => (if bt288.2.2.2.2 = true then (if bt294.2.2.2.2 = true then (if bt301.2.2.2.2 = true then (if bt308.2.2.2.2 = true then (if bt315.2.2.2.2 = true then (if (bt288.1 == bt294.1 && (bt288.2.1 == bt294.2.1 && (bt288.2.2.1.toList == bt294.2.2.1.toList && (bt288.2.2.2.1.toList == bt294.2.2.2.1.toList)))) = true then (if (bt288.1 == bt301.1 && (bt288.2.1 == bt301.2.1 && (bt288.2.2.1.toList == bt301.2.2.1.toList && (bt288.2.2.2.1.toList == bt301.2.2.2.1.toList)))) = true then (if (bt288.1 == bt308.1 && (bt288.2.1 == bt308.2.1 && (bt288.2.2.1.toList == bt308.2.2.1.toList && (bt288.2.2.2.1.toList == bt308.2.2.2.1.toList)))) = true then (if (bt288.1 == bt315.1 && (bt288.2.1 == bt315.2.1 && (bt288.2.2.1.toList == bt315.2.2.1.toList && (bt288.2.2.2.1.toList == bt315.2.2.2.1.toList)))) = true then ((dec_Good.f k2 bt288.1 bt288.2.1 bt288.2.2.1 bt288.2.2.2.1).bind fun t321 => (if t321 = true then (if (bt288.2.1 == a2) = true then (some (bt288.1 == 0)) else (some false)) else (some false))) else (some false)) else (some false)) else (some false)) else (some false)) else (some false)) else (some false)) else (some false)) else (some false)) else (some false)))) else (none)))))) else (none))) else (none)) else (none))))) = some r := H
        have A15 := Aside0.mk A150
        clear A150
        replace H := Option.bind_eq_some_iff.mp H
        obtain ⟨t286, A160, H⟩ := H
        replace H : ((targumref4_Add.f k2 (⟨#[48]⟩ : ByteArray) (wrap64 (a3))).bind fun t287 => ((dec_Make.f k2 a2 t285 t286 t287).bind fun bt288 => (if x11_2.size + t285.size ≤ 9223372036854775807 then (if t286.size + x11_2.size ≤ 9223372036854775807 then ((dec_Make.f k2 a2 (x11_2 ++ t285) (t286 ++ x11_2) t287).bind fun bt294 => (if t285.size + t286.size ≤ 9223372036854775807 then ((targumref4_Add.f k2 t287 (wrap64 (-(t286.size : Int)))).bind fun t300 => ((dec_Make.f k2 a2 (t285 ++ t286) (⟨#[]⟩ : ByteArray) t300).bind fun bt301 => ((targumref4_Add.f k2 t287 (t285.size : Int)).bind fun t307 => ((dec_Make.f k2 a2 (⟨#[]⟩ : ByteArray) (t285 ++ t286) t307).bind fun bt308 => (if (t285 ++ t286).size + x11_2.size ≤ 9223372036854775807 then ((targumref4_Add.f k2 t287 (wrap64 ((wrap64 (-(t286.size : Int))) - (x11_2.size : Int)))).bind fun t314 => ((dec_Make.f k2 a2 ((t285 ++ t286) ++ x11_2) (⟨#[]⟩ : ByteArray) t314).bind fun bt315 => (if bt288.2.2.2.2 = true then (if bt294.2.2.2.2 = true then (if bt301.2.2.2.2 = true then (if bt308.2.2.2.2 = true then (if bt315.2.2.2.2 = true then (if (bt288.1 == bt294.1 && (bt288.2.1 == bt294.2.1 && (bt288.2.2.1.toList == bt294.2.2.1.toList && (bt288.2.2.2.1.toList == bt294.2.2.2.1.toList)))) = true then (if (bt288.1 == bt301.1 && (bt288.2.1 == bt301.2.1 && (bt288.2.2.1.toList == bt301.2.2.1.toList && (bt288.2.2.2.1.toList == bt301.2.2.2.1.toList)))) = true then (if (bt288.1 == bt308.1 && (bt288.2.1 == bt308.2.1 && (bt288.2.2.1.toList == bt308.2.2.1.toList && (bt288.2.2.2.1.toList == bt308.2.2.2.1.toList)))) = true then (if (bt288.1 == bt315.1 && (bt288.2.1 == bt315.2.1 && (bt288.2.2.1.toList == bt315.2.2.1.toList && (bt288.2.2.2.1.toList == bt315.2.2.2.1.toList)))) = true then ((dec_Good.f k2 bt288.1 bt288.2.1 bt288.2.2.1 bt288.2.2.2.1).bind fun t321 => (if t321 = true then (if (bt288.2.1 == a2) = true then (some (bt288.1 == 0)) else (some false)) else (some false))) else (some false)) else (some false)) else (some false)) else (some false)) else (some false)) else (some false)) else (some false)) else (some false)) else (some false)))) else (none)))))) else (none))) else (none)) else (none)))) = some r := H
        have A16 := Aside0.mk A160
        clear A160
        replace H := Option.bind_eq_some_iff.mp H
        obtain ⟨t287, A170, H⟩ := H
        replace H : ((dec_Make.f k2 a2 t285 t286 t287).bind fun bt288 => (if x11_2.size + t285.size ≤ 9223372036854775807 then (if t286.size + x11_2.size ≤ 9223372036854775807 then ((dec_Make.f k2 a2 (x11_2 ++ t285) (t286 ++ x11_2) t287).bind fun bt294 => (if t285.size + t286.size ≤ 9223372036854775807 then ((targumref4_Add.f k2 t287 (wrap64 (-(t286.size : Int)))).bind fun t300 => ((dec_Make.f k2 a2 (t285 ++ t286) (⟨#[]⟩ : ByteArray) t300).bind fun bt301 => ((targumref4_Add.f k2 t287 (t285.size : Int)).bind fun t307 => ((dec_Make.f k2 a2 (⟨#[]⟩ : ByteArray) (t285 ++ t286) t307).bind fun bt308 => (if (t285 ++ t286).size + x11_2.size ≤ 9223372036854775807 then ((targumref4_Add.f k2 t287 (wrap64 ((wrap64 (-(t286.size : Int))) - (x11_2.size : Int)))).bind fun t314 => ((dec_Make.f k2 a2 ((t285 ++ t286) ++ x11_2) (⟨#[]⟩ : ByteArray) t314).bind fun bt315 => (if bt288.2.2.2.2 = true then (if bt294.2.2.2.2 = true then (if bt301.2.2.2.2 = true then (if bt308.2.2.2.2 = true then (if bt315.2.2.2.2 = true then (if (bt288.1 == bt294.1 && (bt288.2.1 == bt294.2.1 && (bt288.2.2.1.toList == bt294.2.2.1.toList && (bt288.2.2.2.1.toList == bt294.2.2.2.1.toList)))) = true then (if (bt288.1 == bt301.1 && (bt288.2.1 == bt301.2.1 && (bt288.2.2.1.toList == bt301.2.2.1.toList && (bt288.2.2.2.1.toList == bt301.2.2.2.1.toList)))) = true then (if (bt288.1 == bt308.1 && (bt288.2.1 == bt308.2.1 && (bt288.2.2.1.toList == bt308.2.2.1.toList && (bt288.2.2.2.1.toList == bt308.2.2.2.1.toList)))) = true then (if (bt288.1 == bt315.1 && (bt288.2.1 == bt315.2.1 && (bt288.2.2.1.toList == bt315.2.2.1.toList && (bt288.2.2.2.1.toList == bt315.2.2.2.1.toList)))) = true then ((dec_Good.f k2 bt288.1 bt288.2.1 bt288.2.2.1 bt288.2.2.2.1).bind fun t321 => (if t321 = true then (if (bt288.2.1 == a2) = true then (some (bt288.1 == 0)) else (some false)) else (some false))) else (some false)) else (some false)) else (some false)) else (some false)) else (some false)) else (some false)) else (some false)) else (some false)) else (some false)))) else (none)))))) else (none))) else (none)) else (none))) = some r := H
        have A17 := Aside0.mk A170
        clear A170
        replace H := Option.bind_eq_some_iff.mp H
        obtain ⟨⟨t288, t289, t290, t291, t292⟩, A180, H⟩ := H
        replace H : (if x11_2.size + t285.size ≤ 9223372036854775807 then (if t286.size + x11_2.size ≤ 9223372036854775807 then ((dec_Make.f k2 a2 (x11_2 ++ t285) (t286 ++ x11_2) t287).bind fun bt294 => (if t285.size + t286.size ≤ 9223372036854775807 then ((targumref4_Add.f k2 t287 (wrap64 (-(t286.size : Int)))).bind fun t300 => ((dec_Make.f k2 a2 (t285 ++ t286) (⟨#[]⟩ : ByteArray) t300).bind fun bt301 => ((targumref4_Add.f k2 t287 (t285.size : Int)).bind fun t307 => ((dec_Make.f k2 a2 (⟨#[]⟩ : ByteArray) (t285 ++ t286) t307).bind fun bt308 => (if (t285 ++ t286).size + x11_2.size ≤ 9223372036854775807 then ((targumref4_Add.f k2 t287 (wrap64 ((wrap64 (-(t286.size : Int))) - (x11_2.size : Int)))).bind fun t314 => ((dec_Make.f k2 a2 ((t285 ++ t286) ++ x11_2) (⟨#[]⟩ : ByteArray) t314).bind fun bt315 => (if t292 = true then (if bt294.2.2.2.2 = true then (if bt301.2.2.2.2 = true then (if bt308.2.2.2.2 = true then (if bt315.2.2.2.2 = true then (if (t288 == bt294.1 && (t289 == bt294.2.1 && (t290.toList == bt294.2.2.1.toList && (t291.toList == bt294.2.2.2.1.toList)))) = true then (if (t288 == bt301.1 && (t289 == bt301.2.1 && (t290.toList == bt301.2.2.1.toList && (t291.toList == bt301.2.2.2.1.toList)))) = true then (if (t288 == bt308.1 && (t289 == bt308.2.1 && (t290.toList == bt308.2.2.1.toList && (t291.toList == bt308.2.2.2.1.toList)))) = true then (if (t288 == bt315.1 && (t289 == bt315.2.1 && (t290.toList == bt315.2.2.1.toList && (t291.toList == bt315.2.2.2.1.toList)))) = true then ((dec_Good.f k2 t288 t289 t290 t291).bind fun t321 => (if t321 = true then (if (t289 == a2) = true then (some (t288 == 0)) else (some false)) else (some false))) else (some false)) else (some false)) else (some false)) else (some false)) else (some false)) else (some false)) else (some false)) else (some false)) else (some false)))) else (none)))))) else (none))) else (none)) else (none)) = some r := H
        have A18 := Aside0.mk A180
        clear A180
        by_cases c19 : x11_2.size + t285.size ≤ 9223372036854775807
        ·rw [if_pos c19] at H
         have c19b0 := eq_true c19
         have c19b1 : decide (x11_2.size + t285.size ≤ 9223372036854775807) = true := decide_eq_true c19
         try have c19b2 : (9223372036854775807 < x11_2.size + t285.size) = False := eq_false (Nat.not_lt.2 c19)
         by_cases c20 : t286.size + x11_2.size ≤ 9223372036854775807
         ·rw [if_pos c20] at H
          have c20b0 := eq_true c20
          have c20b1 : decide (t286.size + x11_2.size ≤ 9223372036854775807) = true := decide_eq_true c20
          try have c20b2 : (9223372036854775807 < t286.size + x11_2.size) = False := eq_false (Nat.not_lt.2 c20)
          replace H := Option.bind_eq_some_iff.mp H
          obtain ⟨⟨t294, t295, t296, t297, t298⟩, A210, H⟩ := H
          replace H : (if t285.size + t286.size ≤ 9223372036854775807 then ((targumref4_Add.f k2 t287 (wrap64 (-(t286.size : Int)))).bind fun t300 => ((dec_Make.f k2 a2 (t285 ++ t286) (⟨#[]⟩ : ByteArray) t300).bind fun bt301 => ((targumref4_Add.f k2 t287 (t285.size : Int)).bind fun t307 => ((dec_Make.f k2 a2 (⟨#[]⟩ : ByteArray) (t285 ++ t286) t307).bind fun bt308 => (if (t285 ++ t286).size + x11_2.size ≤ 9223372036854775807 then ((targumref4_Add.f k2 t287 (wrap64 ((wrap64 (-(t286.size : Int))) - (x11_2.size : Int)))).bind fun t314 => ((dec_Make.f k2 a2 ((t285 ++ t286) ++ x11_2) (⟨#[]⟩ : ByteArray) t314).bind fun bt315 => (if t292 = true then (if t298 = true then (if bt301.2.2.2.2 = true then (if bt308.2.2.2.2 = true then (if bt315.2.2.2.2 = true then (if (t288 == t294 && (t289 == t295 && (t290.toList == t296.toList && (t291.toList == t297.toList)))) = true then (if (t288 == bt301.1 && (t289 == bt301.2.1 && (t290.toList == bt301.2.2.1.toList && (t291.toList == bt301.2.2.2.1.toList)))) = true then (if (t288 == bt308.1 && (t289 == bt308.2.1 && (t290.toList == bt308.2.2.1.toList && (t291.toList == bt308.2.2.2.1.toList)))) = true then (if (t288 == bt315.1 && (t289 == bt315.2.1 && (t290.toList == bt315.2.2.1.toList && (t291.toList == bt315.2.2.2.1.toList)))) = true then ((dec_Good.f k2 t288 t289 t290 t291).bind fun t321 => (if t321 = true then (if (t289 == a2) = true then (some (t288 == 0)) else (some false)) else (some false))) else (some false)) else (some false)) else (some false)) else (some false)) else (some false)) else (some false)) else (some false)) else (some false)) else (some false)))) else (none)))))) else (none)) = some r := H
          have A21 := Aside0.mk A210
          clear A210
          by_cases c22 : t285.size + t286.size ≤ 9223372036854775807
          ·rw [if_pos c22] at H
           have c22b0 := eq_true c22
           have c22b1 : decide (t285.size + t286.size ≤ 9223372036854775807) = true := decide_eq_true c22
           try have c22b2 : (9223372036854775807 < t285.size + t286.size) = False := eq_false (Nat.not_lt.2 c22)
           replace H := Option.bind_eq_some_iff.mp H
           obtain ⟨t300, A230, H⟩ := H
           replace H : ((dec_Make.f k2 a2 (t285 ++ t286) (⟨#[]⟩ : ByteArray) t300).bind fun bt301 => ((targumref4_Add.f k2 t287 (t285.size : Int)).bind fun t307 => ((dec_Make.f k2 a2 (⟨#[]⟩ : ByteArray) (t285 ++ t286) t307).bind fun bt308 => (if (t285 ++ t286).size + x11_2.size ≤ 9223372036854775807 then ((targumref4_Add.f k2 t287 (wrap64 ((wrap64 (-(t286.size : Int))) - (x11_2.size : Int)))).bind fun t314 => ((dec_Make.f k2 a2 ((t285 ++ t286) ++ x11_2) (⟨#[]⟩ : ByteArray) t314).bind fun bt315 => (if t292 = true then (if t298 = true then (if bt301.2.2.2.2 = true then (if bt308.2.2.2.2 = true then (if bt315.2.2.2.2 = true then (if (t288 == t294 && (t289 == t295 && (t290.toList == t296.toList && (t291.toList == t297.toList)))) = true then (if (t288 == bt301.1 && (t289 == bt301.2.1 && (t290.toList == bt301.2.2.1.toList && (t291.toList == bt301.2.2.2.1.toList)))) = true then (if (t288 == bt308.1 && (t289 == bt308.2.1 && (t290.toList == bt308.2.2.1.toList && (t291.toList == bt308.2.2.2.1.toList)))) = true then (if (t288 == bt315.1 && (t289 == bt315.2.1 && (t290.toList == bt315.2.2.1.toList && (t291.toList == bt315.2.2.2.1.toList)))) = true then ((dec_Good.f k2 t288 t289 t290 t291).bind fun t321 => (if t321 = true then (if (t289 == a2) = true then (some (t288 == 0)) else (some false)) else (some false))) else (some false)) else (some false)) else (some false)) else (some false)) else (some false)) else (some false)) else (some false)) else (some false)) else (some false)))) else (none))))) = some r := H
           have A23 := Aside0.mk A230
           try (have A23z := Aside0.mk A23.out; rw [show wrap64 (-(t286.size : Int)) = -(t286.size : Int) from by first | omega | (unfold wrap64; omega) | ((try have hc14_ := c14; try simp only [ByteArray.size_append] at hc14_); (try have hc19_ := c19; try simp only [ByteArray.size_append] at hc19_); (try have hc20_ := c20; try simp only [ByteArray.size_append] at hc20_); (try have hc22_ := c22; try simp only [ByteArray.size_append] at hc22_); (try have hc27_ := c27; try simp only [ByteArray.size_append] at hc27_); unfold wrap64; omega)] at A23z)
           clear A230
           replace H := Option.bind_eq_some_iff.mp H
           obtain ⟨⟨t301, t302, t303, t304, t305⟩, A240, H⟩ := H
           replace H : ((targumref4_Add.f k2 t287 (t285.size : Int)).bind fun t307 => ((dec_Make.f k2 a2 (⟨#[]⟩ : ByteArray) (t285 ++ t286) t307).bind fun bt308 => (if (t285 ++ t286).size + x11_2.size ≤ 9223372036854775807 then ((targumref4_Add.f k2 t287 (wrap64 ((wrap64 (-(t286.size : Int))) - (x11_2.size : Int)))).bind fun t314 => ((dec_Make.f k2 a2 ((t285 ++ t286) ++ x11_2) (⟨#[]⟩ : ByteArray) t314).bind fun bt315 => (if t292 = true then (if t298 = true then (if t305 = true then (if bt308.2.2.2.2 = true then (if bt315.2.2.2.2 = true then (if (t288 == t294 && (t289 == t295 && (t290.toList == t296.toList && (t291.toList == t297.toList)))) = true then (if (t288 == t301 && (t289 == t302 && (t290.toList == t303.toList && (t291.toList == t304.toList)))) = true then (if (t288 == bt308.1 && (t289 == bt308.2.1 && (t290.toList == bt308.2.2.1.toList && (t291.toList == bt308.2.2.2.1.toList)))) = true then (if (t288 == bt315.1 && (t289 == bt315.2.1 && (t290.toList == bt315.2.2.1.toList && (t291.toList == bt315.2.2.2.1.toList)))) = true then ((dec_Good.f k2 t288 t289 t290 t291).bind fun t321 => (if t321 = true then (if (t289 == a2) = true then (some (t288 == 0)) else (some false)) else (some false))) else (some false)) else (some false)) else (some false)) else (some false)) else (some false)) else (some false)) else (some false)) else (some false)) else (some false)))) else (none)))) = some r := H
           have A24 := Aside0.mk A240
           clear A240
           replace H := Option.bind_eq_some_iff.mp H
           obtain ⟨t307, A250, H⟩ := H
           replace H : ((dec_Make.f k2 a2 (⟨#[]⟩ : ByteArray) (t285 ++ t286) t307).bind fun bt308 => (if (t285 ++ t286).size + x11_2.size ≤ 9223372036854775807 then ((targumref4_Add.f k2 t287 (wrap64 ((wrap64 (-(t286.size : Int))) - (x11_2.size : Int)))).bind fun t314 => ((dec_Make.f k2 a2 ((t285 ++ t286) ++ x11_2) (⟨#[]⟩ : ByteArray) t314).bind fun bt315 => (if t292 = true then (if t298 = true then (if t305 = true then (if bt308.2.2.2.2 = true then (if bt315.2.2.2.2 = true then (if (t288 == t294 && (t289 == t295 && (t290.toList == t296.toList && (t291.toList == t297.toList)))) = true then (if (t288 == t301 && (t289 == t302 && (t290.toList == t303.toList && (t291.toList == t304.toList)))) = true then (if (t288 == bt308.1 && (t289 == bt308.2.1 && (t290.toList == bt308.2.2.1.toList && (t291.toList == bt308.2.2.2.1.toList)))) = true then (if (t288 == bt315.1 && (t289 == bt315.2.1 && (t290.toList == bt315.2.2.1.toList && (t291.toList == bt315.2.2.2.1.toList)))) = true then ((dec_Good.f k2 t288 t289 t290 t291).bind fun t321 => (if t321 = true then (if (t289 == a2) = true then (some (t288 == 0)) else (some false)) else (some false))) else (some false)) else (some false)) else (some false)) else (some false)) else (some false)) else (some false)) else (some false)) else (some false)) else (some false)))) else (none))) = some r := H
           have A25 := Aside0.mk A250
           clear A250
           replace H := Option.bind_eq_some_iff.mp H
           obtain ⟨⟨t308, t309, t310, t311, t312⟩, A260, H⟩ := H
           replace H : (if (t285 ++ t286).size + x11_2.size ≤ 9223372036854775807 then ((targumref4_Add.f k2 t287 (wrap64 ((wrap64 (-(t286.size : Int))) - (x11_2.size : Int)))).bind fun t314 => ((dec_Make.f k2 a2 ((t285 ++ t286) ++ x11_2) (⟨#[]⟩ : ByteArray) t314).bind fun bt315 => (if t292 = true then (if t298 = true then (if t305 = true then (if t312 = true then (if bt315.2.2.2.2 = true then (if (t288 == t294 && (t289 == t295 && (t290.toList == t296.toList && (t291.toList == t297.toList)))) = true then (if (t288 == t301 && (t289 == t302 && (t290.toList == t303.toList && (t291.toList == t304.toList)))) = true then (if (t288 == t308 && (t289 == t309 && (t290.toList == t310.toList && (t291.toList == t311.toList)))) = true then (if (t288 == bt315.1 && (t289 == bt315.2.1 && (t290.toList == bt315.2.2.1.toList && (t291.toList == bt315.2.2.2.1.toList)))) = true then ((dec_Good.f k2 t288 t289 t290 t291).bind fun t321 => (if t321 = true then (if (t289 == a2) = true then (some (t288 == 0)) else (some false)) else (some false))) else (some false)) else (some false)) else (some false)) else (some false)) else (some false)) else (some false)) else (some false)) else (some false)) else (some false)))) else (none)) = some r := H
           have A26 := Aside0.mk A260
           clear A260
           by_cases c27 : (t285 ++ t286).size + x11_2.size ≤ 9223372036854775807
           ·rw [if_pos c27] at H
            have c27b0 := eq_true c27
            have c27b1 : decide ((t285 ++ t286).size + x11_2.size ≤ 9223372036854775807) = true := decide_eq_true c27
            try have c27b2 : (9223372036854775807 < (t285 ++ t286).size + x11_2.size) = False := eq_false (Nat.not_lt.2 c27)
            try have c27b3 : (9223372036854775807 < t285.size + t286.size + x11_2.size) = False := eq_false (Nat.not_lt.2 (by have z_ := c27; simp only [ByteArray.size_append, ByteArray.size_extract, Nat.min_self] at z_; exact z_))
            replace H := Option.bind_eq_some_iff.mp H
            obtain ⟨t314, A280, H⟩ := H
            replace H : ((dec_Make.f k2 a2 ((t285 ++ t286) ++ x11_2) (⟨#[]⟩ : ByteArray) t314).bind fun bt315 => (if t292 = true then (if t298 = true then (if t305 = true then (if t312 = true then (if bt315.2.2.2.2 = true then (if (t288 == t294 && (t289 == t295 && (t290.toList == t296.toList && (t291.toList == t297.toList)))) = true then (if (t288 == t301 && (t289 == t302 && (t290.toList == t303.toList && (t291.toList == t304.toList)))) = true then (if (t288 == t308 && (t289 == t309 && (t290.toList == t310.toList && (t291.toList == t311.toList)))) = true then (if (t288 == bt315.1 && (t289 == bt315.2.1 && (t290.toList == bt315.2.2.1.toList && (t291.toList == bt315.2.2.2.1.toList)))) = true then ((dec_Good.f k2 t288 t289 t290 t291).bind fun t321 => (if t321 = true then (if (t289 == a2) = true then (some (t288 == 0)) else (some false)) else (some false))) else (some false)) else (some false)) else (some false)) else (some false)) else (some false)) else (some false)) else (some false)) else (some false)) else (some false))) = some r := H
            have A28 := Aside0.mk A280
            try (have A28z := Aside0.mk A28.out; rw [show wrap64 (-(t286.size : Int)) = -(t286.size : Int) from by first | omega | (unfold wrap64; omega) | ((try have hc14_ := c14; try simp only [ByteArray.size_append] at hc14_); (try have hc19_ := c19; try simp only [ByteArray.size_append] at hc19_); (try have hc20_ := c20; try simp only [ByteArray.size_append] at hc20_); (try have hc22_ := c22; try simp only [ByteArray.size_append] at hc22_); (try have hc27_ := c27; try simp only [ByteArray.size_append] at hc27_); unfold wrap64; omega)] at A28z; rw [show wrap64 (((-(t286.size : Int))) - (x11_2.size : Int)) = ((-(t286.size : Int))) - (x11_2.size : Int) from by first | omega | (unfold wrap64; omega) | ((try have hc14_ := c14; try simp only [ByteArray.size_append] at hc14_); (try have hc19_ := c19; try simp only [ByteArray.size_append] at hc19_); (try have hc20_ := c20; try simp only [ByteArray.size_append] at hc20_); (try have hc22_ := c22; try simp only [ByteArray.size_append] at hc22_); (try have hc27_ := c27; try simp only [ByteArray.size_append] at hc27_); unfold wrap64; omega)] at A28z)
            clear A280
            replace H := Option.bind_eq_some_iff.mp H
            obtain ⟨⟨t315, t316, t317, t318, t319⟩, A290, H⟩ := H
            replace H : (if t292 = true then (if t298 = true then (if t305 = true then (if t312 = true then (if t319 = true then (if (t288 == t294 && (t289 == t295 && (t290.toList == t296.toList && (t291.toList == t297.toList)))) = true then (if (t288 == t301 && (t289 == t302 && (t290.toList == t303.toList && (t291.toList == t304.toList)))) = true then (if (t288 == t308 && (t289 == t309 && (t290.toList == t310.toList && (t291.toList == t311.toList)))) = true then (if (t288 == t315 && (t289 == t316 && (t290.toList == t317.toList && (t291.toList == t318.toList)))) = true then ((dec_Good.f k2 t288 t289 t290 t291).bind fun t321 => (if t321 = true then (if (t289 == a2) = true then (some (t288 == 0)) else (some false)) else (some false))) else (some false)) else (some false)) else (some false)) else (some false)) else (some false)) else (some false)) else (some false)) else (some false)) else (some false)) = some r := H
            have A29 := Aside0.mk A290
            clear A290
            refine Classical.byCases (p := (t292 = true)) (fun c30 => ?x4) (fun c30 => ?y4)
            case' x4 =>
             subst c30
             have H1 : (if t298 = true then (if t305 = true then (if t312 = true then (if t319 = true then (if (t288 == t294 && (t289 == t295 && (t290.toList == t296.toList && (t291.toList == t297.toList)))) = true then (if (t288 == t301 && (t289 == t302 && (t290.toList == t303.toList && (t291.toList == t304.toList)))) = true then (if (t288 == t308 && (t289 == t309 && (t290.toList == t310.toList && (t291.toList == t311.toList)))) = true then (if (t288 == t315 && (t289 == t316 && (t290.toList == t317.toList && (t291.toList == t318.toList)))) = true then ((dec_Good.f k2 t288 t289 t290 t291).bind fun t321 => (if t321 = true then (if (t289 == a2) = true then (some (t288 == 0)) else (some false)) else (some false))) else (some false)) else (some false)) else (some false)) else (some false)) else (some false)) else (some false)) else (some false)) else (some false)) = some r := by rw [if_pos rfl] at H; exact H
             clear H
             have H := H1
             clear H1
             refine Classical.byCases (p := (t298 = true)) (fun c31 => ?x5) (fun c31 => ?y5)
             case' x5 =>
              subst c31
              have H1 : (if t305 = true then (if t312 = true then (if t319 = true then (if (t288 == t294 && (t289 == t295 && (t290.toList == t296.toList && (t291.toList == t297.toList)))) = true then (if (t288 == t301 && (t289 == t302 && (t290.toList == t303.toList && (t291.toList == t304.toList)))) = true then (if (t288 == t308 && (t289 == t309 && (t290.toList == t310.toList && (t291.toList == t311.toList)))) = true then (if (t288 == t315 && (t289 == t316 && (t290.toList == t317.toList && (t291.toList == t318.toList)))) = true then ((dec_Good.f k2 t288 t289 t290 t291).bind fun t321 => (if t321 = true then (if (t289 == a2) = true then (some (t288 == 0)) else (some false)) else (some false))) else (some false)) else (some false)) else (some false)) else (some false)) else (some false)) else (some false)) else (some false)) = some r := by rw [if_pos rfl] at H; exact H
              clear H
              have H := H1
              clear H1
              refine Classical.byCases (p := (t305 = true)) (fun c32 => ?x6) (fun c32 => ?y6)
              case' x6 =>
               subst c32
               have H1 : (if t312 = true then (if t319 = true then (if (t288 == t294 && (t289 == t295 && (t290.toList == t296.toList && (t291.toList == t297.toList)))) = true then (if (t288 == t301 && (t289 == t302 && (t290.toList == t303.toList && (t291.toList == t304.toList)))) = true then (if (t288 == t308 && (t289 == t309 && (t290.toList == t310.toList && (t291.toList == t311.toList)))) = true then (if (t288 == t315 && (t289 == t316 && (t290.toList == t317.toList && (t291.toList == t318.toList)))) = true then ((dec_Good.f k2 t288 t289 t290 t291).bind fun t321 => (if t321 = true then (if (t289 == a2) = true then (some (t288 == 0)) else (some false)) else (some false))) else (some false)) else (some false)) else (some false)) else (some false)) else (some false)) else (some false)) = some r := by rw [if_pos rfl] at H; exact H
               clear H
               have H := H1
               clear H1
               refine Classical.byCases (p := (t312 = true)) (fun c33 => ?x7) (fun c33 => ?y7)
               case' x7 =>
                subst c33
                have H1 : (if t319 = true then (if (t288 == t294 && (t289 == t295 && (t290.toList == t296.toList && (t291.toList == t297.toList)))) = true then (if (t288 == t301 && (t289 == t302 && (t290.toList == t303.toList && (t291.toList == t304.toList)))) = true then (if (t288 == t308 && (t289 == t309 && (t290.toList == t310.toList && (t291.toList == t311.toList)))) = true then (if (t288 == t315 && (t289 == t316 && (t290.toList == t317.toList && (t291.toList == t318.toList)))) = true then ((dec_Good.f k2 t288 t289 t290 t291).bind fun t321 => (if t321 = true then (if (t289 == a2) = true then (some (t288 == 0)) else (some false)) else (some false))) else (some false)) else (some false)) else (some false)) else (some false)) else (some false)) = some r := by rw [if_pos rfl] at H; exact H
                clear H
                have H := H1
                clear H1
                refine Classical.byCases (p := (t319 = true)) (fun c34 => ?x8) (fun c34 => ?y8)
                case' x8 =>
                 subst c34
                 have H1 : (if (t288 == t294 && (t289 == t295 && (t290.toList == t296.toList && (t291.toList == t297.toList)))) = true then (if (t288 == t301 && (t289 == t302 && (t290.toList == t303.toList && (t291.toList == t304.toList)))) = true then (if (t288 == t308 && (t289 == t309 && (t290.toList == t310.toList && (t291.toList == t311.toList)))) = true then (if (t288 == t315 && (t289 == t316 && (t290.toList == t317.toList && (t291.toList == t318.toList)))) = true then ((dec_Good.f k2 t288 t289 t290 t291).bind fun t321 => (if t321 = true then (if (t289 == a2) = true then (some (t288 == 0)) else (some false)) else (some false))) else (some false)) else (some false)) else (some false)) else (some false)) = some r := by rw [if_pos rfl] at H; exact H
                 clear H
                 have H := H1
                 clear H1
                 refine Classical.byCases (p := ((t288 == t294 && (t289 == t295 && (t290.toList == t296.toList && (t291.toList == t297.toList)))) = true)) (fun c35 => ?x9) (fun c35 => ?y9)
                 case' x9 =>
                  rw [if_pos c35] at H
                  have c35b0 : (t288 == t294 && (t289 == t295 && (t290.toList == t296.toList && (t291.toList == t297.toList)))) = true := c35
                  (try (have c35b1 : decide (t288 = t294 && (t289 == t295 && (t290.toList == t296.toList && (t291.toList == t297.toList)))) = true := by simpa using c35))
                  (try (have c35b2 : (t288 == t294 && (t289 == t295 && (t290.toList == t296.toList && (t291.toList == t297.toList)))) = true := by simpa using c35))
                  clear c35
                  refine Classical.byCases (p := ((t288 == t301 && (t289 == t302 && (t290.toList == t303.toList && (t291.toList == t304.toList)))) = true)) (fun c36 => ?x10) (fun c36 => ?y10)
                  case' x10 =>
                   rw [if_pos c36] at H
                   have c36b0 : (t288 == t301 && (t289 == t302 && (t290.toList == t303.toList && (t291.toList == t304.toList)))) = true := c36
                   (try (have c36b1 : decide (t288 = t301 && (t289 == t302 && (t290.toList == t303.toList && (t291.toList == t304.toList)))) = true := by simpa using c36))
                   (try (have c36b2 : (t288 == t301 && (t289 == t302 && (t290.toList == t303.toList && (t291.toList == t304.toList)))) = true := by simpa using c36))
                   clear c36
                   refine Classical.byCases (p := ((t288 == t308 && (t289 == t309 && (t290.toList == t310.toList && (t291.toList == t311.toList)))) = true)) (fun c37 => ?x11) (fun c37 => ?y11)
                   case' x11 =>
                    rw [if_pos c37] at H
                    have c37b0 : (t288 == t308 && (t289 == t309 && (t290.toList == t310.toList && (t291.toList == t311.toList)))) = true := c37
                    (try (have c37b1 : decide (t288 = t308 && (t289 == t309 && (t290.toList == t310.toList && (t291.toList == t311.toList)))) = true := by simpa using c37))
                    (try (have c37b2 : (t288 == t308 && (t289 == t309 && (t290.toList == t310.toList && (t291.toList == t311.toList)))) = true := by simpa using c37))
                    clear c37
                    refine Classical.byCases (p := ((t288 == t315 && (t289 == t316 && (t290.toList == t317.toList && (t291.toList == t318.toList)))) = true)) (fun c38 => ?x12) (fun c38 => ?y12)
                    case' x12 =>
                     rw [if_pos c38] at H
                     have c38b0 : (t288 == t315 && (t289 == t316 && (t290.toList == t317.toList && (t291.toList == t318.toList)))) = true := c38
                     (try (have c38b1 : decide (t288 = t315 && (t289 == t316 && (t290.toList == t317.toList && (t291.toList == t318.toList)))) = true := by simpa using c38))
                     (try (have c38b2 : (t288 == t315 && (t289 == t316 && (t290.toList == t317.toList && (t291.toList == t318.toList)))) = true := by simpa using c38))
                     clear c38
                     replace H := Option.bind_eq_some_iff.mp H
                     obtain ⟨t321, A390, H⟩ := H
                     replace H : (if t321 = true then (if (t289 == a2) = true then (some (t288 == 0)) else (some false)) else (some false)) = some r := H
                     have A39 := Aside0.mk A390
                     clear A390
                     refine Classical.byCases (p := (t321 = true)) (fun c40 => ?x13) (fun c40 => ?y13)
                     case' x13 =>
                      subst c40
                      have H1 : (if (t289 == a2) = true then (some (t288 == 0)) else (some false)) = some r := by rw [if_pos rfl] at H; exact H
                      clear H
                      have H := H1
                      clear H1
                      refine Classical.byCases (p := ((t289 == a2) = true)) (fun c41 => ?x14) (fun c41 => ?y14)
                      case' x14 =>
                       rw [if_pos c41] at H
                       have c41b0 : (t289 == a2) = true := c41
                       (try (have c41b1 : decide (t289 = a2) = true := by simpa using c41))
                       (try (have c41b2 : (t289 == a2) = true := by simpa using c41))
                       clear c41
                       obtain rfl := Option.some.inj H
                       skip
                      case' y14 =>
                       rw [if_neg c41] at H
                       have c41b0 : (t289 == a2) = false := by simpa using c41
                       (try (have c41b1 : decide (t289 = a2) = false := by simpa using c41))
                       (try (have c41b2 : (t289 == a2) = false := by simpa using c41))
                       (try (have c41b3 : ¬ (t289 = a2) := by simpa using c41))
                       clear c41
                       obtain rfl := Option.some.inj H
                       skip
                     case' y13 =>
                      replace c40 := Bool.eq_false_iff.mpr c40
                      subst c40
                      have H1 : (some false) = some r := by rw [if_neg (show ¬ (false = true) by decide)] at H; exact H
                      clear H
                      have H := H1
                      clear H1
                      obtain rfl := Option.some.inj H
                      skip
                    case' y12 =>
                     rw [if_neg c38] at H
                     have c38b0 : (t288 == t315 && (t289 == t316 && (t290.toList == t317.toList && (t291.toList == t318.toList)))) = false := by simpa using c38
                     (try (have c38b1 : decide (t288 = t315 && (t289 == t316 && (t290.toList == t317.toList && (t291.toList == t318.toList)))) = false := by simpa using c38))
                     (try (have c38b2 : (t288 == t315 && (t289 == t316 && (t290.toList == t317.toList && (t291.toList == t318.toList)))) = false := by simpa using c38))
                     (try (have c38b3 : ¬ (t288 = t315 && (t289 == t316 && (t290.toList == t317.toList && (t291.toList == t318.toList)))) := by simpa using c38))
                     clear c38
                     obtain rfl := Option.some.inj H
                     skip
                   case' y11 =>
                    rw [if_neg c37] at H
                    have c37b0 : (t288 == t308 && (t289 == t309 && (t290.toList == t310.toList && (t291.toList == t311.toList)))) = false := by simpa using c37
                    (try (have c37b1 : decide (t288 = t308 && (t289 == t309 && (t290.toList == t310.toList && (t291.toList == t311.toList)))) = false := by simpa using c37))
                    (try (have c37b2 : (t288 == t308 && (t289 == t309 && (t290.toList == t310.toList && (t291.toList == t311.toList)))) = false := by simpa using c37))
                    (try (have c37b3 : ¬ (t288 = t308 && (t289 == t309 && (t290.toList == t310.toList && (t291.toList == t311.toList)))) := by simpa using c37))
                    clear c37
                    obtain rfl := Option.some.inj H
                    skip
                  case' y10 =>
                   rw [if_neg c36] at H
                   have c36b0 : (t288 == t301 && (t289 == t302 && (t290.toList == t303.toList && (t291.toList == t304.toList)))) = false := by simpa using c36
                   (try (have c36b1 : decide (t288 = t301 && (t289 == t302 && (t290.toList == t303.toList && (t291.toList == t304.toList)))) = false := by simpa using c36))
                   (try (have c36b2 : (t288 == t301 && (t289 == t302 && (t290.toList == t303.toList && (t291.toList == t304.toList)))) = false := by simpa using c36))
                   (try (have c36b3 : ¬ (t288 = t301 && (t289 == t302 && (t290.toList == t303.toList && (t291.toList == t304.toList)))) := by simpa using c36))
                   clear c36
                   obtain rfl := Option.some.inj H
                   skip
                 case' y9 =>
                  rw [if_neg c35] at H
                  have c35b0 : (t288 == t294 && (t289 == t295 && (t290.toList == t296.toList && (t291.toList == t297.toList)))) = false := by simpa using c35
                  (try (have c35b1 : decide (t288 = t294 && (t289 == t295 && (t290.toList == t296.toList && (t291.toList == t297.toList)))) = false := by simpa using c35))
                  (try (have c35b2 : (t288 == t294 && (t289 == t295 && (t290.toList == t296.toList && (t291.toList == t297.toList)))) = false := by simpa using c35))
                  (try (have c35b3 : ¬ (t288 = t294 && (t289 == t295 && (t290.toList == t296.toList && (t291.toList == t297.toList)))) := by simpa using c35))
                  clear c35
                  obtain rfl := Option.some.inj H
                  skip
                case' y8 =>
                 replace c34 := Bool.eq_false_iff.mpr c34
                 subst c34
                 have H1 : (some false) = some r := by rw [if_neg (show ¬ (false = true) by decide)] at H; exact H
                 clear H
                 have H := H1
                 clear H1
                 obtain rfl := Option.some.inj H
                 skip
               case' y7 =>
                replace c33 := Bool.eq_false_iff.mpr c33
                subst c33
                have H1 : (some false) = some r := by rw [if_neg (show ¬ (false = true) by decide)] at H; exact H
                clear H
                have H := H1
                clear H1
                obtain rfl := Option.some.inj H
                skip
              case' y6 =>
               replace c32 := Bool.eq_false_iff.mpr c32
               subst c32
               have H1 : (some false) = some r := by rw [if_neg (show ¬ (false = true) by decide)] at H; exact H
               clear H
               have H := H1
               clear H1
               obtain rfl := Option.some.inj H
               skip
             case' y5 =>
              replace c31 := Bool.eq_false_iff.mpr c31
              subst c31
              have H1 : (some false) = some r := by rw [if_neg (show ¬ (false = true) by decide)] at H; exact H
              clear H
              have H := H1
              clear H1
              obtain rfl := Option.some.inj H
              skip
            case' y4 =>
             replace c30 := Bool.eq_false_iff.mpr c30
             subst c30
             have H1 : (some false) = some r := by rw [if_neg (show ¬ (false = true) by decide)] at H; exact H
             clear H
             have H := H1
             clear H1
             obtain rfl := Option.some.inj H
             skip
            case x14 | y14 | y13 | y12 | y11 | y10 | y9 | y8 | y7 | y6 | y5 | y4 =>
             as_aux_lemma =>
              go_wp2_with (first | ((with_reducible refine gate_callee (f := 37) rfl ?_); refine goesL_ (some 54) rfl rfl Tryd.func37 (by kernel_rfl) rfl #[.string a0] rfl (by (try simp only [List.map_toArray, List.map_cons, List.map_nil]); first | done | rfl | (simp only [List.length_drop, List.length_take]; rfl)) ?_; (with_reducible refine (targumlaw5_digits.calls _ _ _ _ A15.out).mono ?_); rintro e w79 ⟨rfl, hb⟩; refine ⟨_, rfl, ?_⟩; have n0_ := Aside0.mk (below_step bl hb); clear HB; have HB := n0_; clear n0_; (try clear hb); (try clear hb2); (try clear hk); (try clear hi)) | ((with_reducible refine gate_callee (f := 37) rfl ?_); refine goesL_ (some 56) rfl rfl Tryd.func37 (by kernel_rfl) rfl #[.string a1] rfl (by (try simp only [List.map_toArray, List.map_cons, List.map_nil]); first | done | rfl | (simp only [List.length_drop, List.length_take]; rfl)) ?_; (with_reducible refine (targumlaw5_digits.calls _ _ _ _ A16.out).mono ?_); rintro e w80 ⟨rfl, hb⟩; refine ⟨_, rfl, ?_⟩; have n0_ := Aside0.mk (below_step bl hb); clear HB; have HB := n0_; clear n0_; (try clear hb); (try clear hb2); (try clear hk); (try clear hi)) | ((with_reducible refine gate_callee (f := 24) rfl ?_); refine goesL_ (some 59) rfl rfl Tryd.func24 (by kernel_rfl) rfl #[.string (⟨#[48]⟩ : ByteArray), .int .i64 (wrap64 (a3))] rfl (by (try simp only [List.map_toArray, List.map_cons, List.map_nil]); first | done | rfl | (simp only [List.length_drop, List.length_take]; rfl)) ?_; (with_reducible refine (targumref4_Add.calls _ _ _ _ _ A17.out).mono ?_); rintro e w81 ⟨rfl, hb⟩; refine ⟨_, rfl, ?_⟩; have n0_ := Aside0.mk (below_step bl hb); clear HB; have HB := n0_; clear n0_; (try clear hb); (try clear hb2); (try clear hk); (try clear hi)) | ((with_reducible refine gate_callee (f := 29) rfl ?_); refine goesL_ (some 65) rfl rfl Tryd.func29 (by kernel_rfl) rfl #[.bool a2, .string t285, .string t286, .string t287] rfl (by (try simp only [List.map_toArray, List.map_cons, List.map_nil]); first | done | rfl | (simp only [List.length_drop, List.length_take]; rfl)) ?_; (with_reducible refine (dec_Make.calls _ _ _ _ _ _ _ _ _ _ _ ?side1 A18.out).mono ?_); (case side1 => exact Go.Proofs.YtddaggnomcoejaaDoor.PDT.Tabs_below HG.out bl); rintro e w82 ⟨rfl, hb⟩; refine ⟨_, rfl, ?_⟩; have n0_ := Aside0.mk (below_step bl hb); clear HB; have HB := n0_; clear n0_; (try clear hb); (try clear hb2); (try clear hk); (try clear hi)) | ((with_reducible refine gate_dst (N := 16) rfl ?_); (try (refine gate_guard (by rfl) ?_; dsimp only)); refine box_event ?hg (N := 16) ?hd (cs := #[.int .i64 0, .bool false, .string (⟨#[]⟩ : ByteArray), .string (⟨#[]⟩ : ByteArray)]) (t := 40) ?hr ?_; (case hd => rfl); (case hg => rfl); (case hr => first | (go_simp; done) | (go_simp; rfl)); intro gb293 hg w83 hbox hb; have n0_ := Aside0.mk (below_step bl hb); have n1_ := Aside0.mk (hbox); have n2_ := Aside0.mk ((by rw [hg]; exact (below_size bl) : w.heap.size ≤ gb293)); have n3_ := Aside0.mk ((by rw [hg]; exact (below_size bl) : w.heap.size ≤ gb293)); clear HB; have HB := n0_; have BK293 := n1_; have GW293 := n2_; have GE293 := n3_; clear n0_ n1_ n2_ n3_; clear hb hbox hg; have hcz84_0 : w83.cell? ⟨gb293, 0, none⟩ = some (.int .i64 0) := (blk_cell BK293.out 0).trans rfl; have hcz84_1 : w83.cell? ⟨gb293, 1, none⟩ = some (.bool false) := (blk_cell BK293.out 1).trans rfl; have hcz84_2 : w83.cell? ⟨gb293, 2, none⟩ = some (.string (⟨#[]⟩ : ByteArray)) := (blk_cell BK293.out 2).trans rfl; have hcz84_3 : w83.cell? ⟨gb293, 3, none⟩ = some (.string (⟨#[]⟩ : ByteArray)) := (blk_cell BK293.out 3).trans rfl; have hfz84_0 := blk_frozen BK293.out 0; have hfz84_1 := blk_frozen BK293.out 1; have hfz84_2 := blk_frozen BK293.out 2; have hfz84_3 := blk_frozen BK293.out 3) | ((with_reducible refine gate_callee (f := 29) rfl ?_); refine goesL_ (some 77) rfl rfl Tryd.func29 (by kernel_rfl) rfl #[.bool a2, .string (x11_2 ++ t285), .string (t286 ++ x11_2), .string t287] rfl (by (try simp only [List.map_toArray, List.map_cons, List.map_nil]); first | done | rfl | (simp only [List.length_drop, List.length_take]; rfl)) ?_; (with_reducible refine (dec_Make.calls _ _ _ _ _ _ _ _ _ _ _ ?side1 A21.out).mono ?_); (case side1 => exact Go.Proofs.YtddaggnomcoejaaDoor.PDT.Tabs_below HG.out bl); rintro e w85 ⟨rfl, hb⟩; refine ⟨_, rfl, ?_⟩; have n0_ := Aside0.mk (blk_below (g := gb293) (o := .cells #[.int .i64 t288, .bool t289, .string t290, .string t291] 40 (0, 0)) bk hb); have n1_ := Aside0.mk (below_step bl hb); clear BK293; clear HB; have BK293 := n0_; have HB := n1_; clear n0_ n1_; (try clear hb); (try clear hb2); (try clear hk); (try clear hi)) | ((with_reducible refine gate_dst (N := 18) rfl ?_); (try (refine gate_guard (by rfl) ?_; dsimp only)); refine box_event ?hg (N := 18) ?hd (cs := #[.int .i64 0, .bool false, .string (⟨#[]⟩ : ByteArray), .string (⟨#[]⟩ : ByteArray)]) (t := 40) ?hr ?_; (case hd => rfl); (case hg => rfl); (case hr => first | (go_simp; done) | (go_simp; rfl)); intro gb299 hg w86 hbox hb; have n0_ := Aside0.mk (blk_below (g := gb293) (o := .cells #[.int .i64 t288, .bool t289, .string t290, .string t291] 40 (0, 0)) bk hb); have n1_ := Aside0.mk (below_step bl hb); have n2_ := Aside0.mk (hbox); have n3_ := Aside0.mk ((by rw [hg]; exact (below_size bl) : w.heap.size ≤ gb299)); have n4_ := Aside0.mk ((by rw [hg]; exact (below_size bl) : w.heap.size ≤ gb299)); have n5_ := Aside0.mk ((by rw [hg]; exact Nat.ne_of_lt (blk_lt (g := gb293) (o := .cells #[.int .i64 t288, .bool t289, .string t290, .string t291] 40 (0, 0)) bk) : gb293 ≠ gb299)); have n6_ := Aside0.mk ((by rw [hg]; exact Nat.ne_of_gt (blk_lt (g := gb293) (o := .cells #[.int .i64 t288, .bool t289, .string t290, .string t291] 40 (0, 0)) bk) : gb299 ≠ gb293)); clear BK293; clear HB; have BK293 := n0_; have HB := n1_; have BK299 := n2_; have GW299 := n3_; have GE299 := n4_; have NB293_299 := n5_; have NB299_293 := n6_; clear n0_ n1_ n2_ n3_ n4_ n5_ n6_; clear hb hbox hg; have hnb87 := NB299_293.out; have hnc87 := NB293_299.out; have hcz88_0 : w86.cell? ⟨gb299, 0, none⟩ = some (.int .i64 0) := (blk_cell BK299.out 0).trans rfl; have hcz88_1 : w86.cell? ⟨gb299, 1, none⟩ = some (.bool false) := (blk_cell BK299.out 1).trans rfl; have hcz88_2 : w86.cell? ⟨gb299, 2, none⟩ = some (.string (⟨#[]⟩ : ByteArray)) := (blk_cell BK299.out 2).trans rfl; have hcz88_3 : w86.cell? ⟨gb299, 3, none⟩ = some (.string (⟨#[]⟩ : ByteArray)) := (blk_cell BK299.out 3).trans rfl; have hfz88_0 := blk_frozen BK299.out 0; have hfz88_1 := blk_frozen BK299.out 1; have hfz88_2 := blk_frozen BK299.out 2; have hfz88_3 := blk_frozen BK299.out 3) | ((with_reducible refine gate_callee (f := 24) rfl ?_); refine goesL_ (some 89) rfl rfl Tryd.func24 (by kernel_rfl) rfl #[.string t287, .int .i64 (wrap64 (-(t286.size : Int)))] rfl (by (try simp only [List.map_toArray, List.map_cons, List.map_nil]); first | done | rfl | (simp only [List.length_drop, List.length_take]; rfl)) ?_; (with_reducible refine (targumref4_Add.calls _ _ _ _ _ A23.out).mono ?_); rintro e w89 ⟨rfl, hb⟩; refine ⟨_, rfl, ?_⟩; have n0_ := Aside0.mk (blk_below (g := gb293) (o := .cells #[.int .i64 t288, .bool t289, .string t290, .string t291] 40 (0, 0)) bk hb); have n1_ := Aside0.mk (blk_below (g := gb299) (o := .cells #[.int .i64 t294, .bool t295, .string t296, .string t297] 40 (0, 0)) bk hb); have n2_ := Aside0.mk (below_step bl hb); clear BK293; clear BK299; clear HB; have BK293 := n0_; have BK299 := n1_; have HB := n2_; clear n0_ n1_ n2_; (try clear hb); (try clear hb2); (try clear hk); (try clear hi)) | ((with_reducible refine gate_callee (f := 24) rfl ?_); refine goesL_ (some 89) rfl rfl Tryd.func24 (by kernel_rfl) rfl #[.string t287, .int .i64 ((-(t286.size : Int)))] rfl (by (try simp only [List.map_toArray, List.map_cons, List.map_nil]); first | done | rfl | (simp only [List.length_drop, List.length_take]; rfl)) ?_; (with_reducible refine (targumref4_Add.calls k2 t287 ((-(t286.size : Int))) t300 _ A23z.out).mono ?_); rintro e w89 ⟨rfl, hb⟩; refine ⟨_, rfl, ?_⟩; have n0_ := Aside0.mk (blk_below (g := gb293) (o := .cells #[.int .i64 t288, .bool t289, .string t290, .string t291] 40 (0, 0)) bk hb); have n1_ := Aside0.mk (blk_below (g := gb299) (o := .cells #[.int .i64 t294, .bool t295, .string t296, .string t297] 40 (0, 0)) bk hb); have n2_ := Aside0.mk (below_step bl hb); clear BK293; clear BK299; clear HB; have BK293 := n0_; have BK299 := n1_; have HB := n2_; clear n0_ n1_ n2_; (try clear hb); (try clear hb2); (try clear hk); (try clear hi)) | ((with_reducible refine gate_callee (f := 29) rfl ?_); refine goesL_ (some 90) rfl rfl Tryd.func29 (by kernel_rfl) rfl #[.bool a2, .string (t285 ++ t286), .string (⟨#[]⟩ : ByteArray), .string t300] rfl (by (try simp only [List.map_toArray, List.map_cons, List.map_nil]); first | done | rfl | (simp only [List.length_drop, List.length_take]; rfl)) ?_; (with_reducible refine (dec_Make.calls _ _ _ _ _ _ _ _ _ _ _ ?side1 A24.out).mono ?_); (case side1 => exact Go.Proofs.YtddaggnomcoejaaDoor.PDT.Tabs_below HG.out bl); rintro e w90 ⟨rfl, hb⟩; refine ⟨_, rfl, ?_⟩; have n0_ := Aside0.mk (blk_below (g := gb293) (o := .cells #[.int .i64 t288, .bool t289, .string t290, .string t291] 40 (0, 0)) bk hb); have n1_ := Aside0.mk (blk_below (g := gb299) (o := .cells #[.int .i64 t294, .bool t295, .string t296, .string t297] 40 (0, 0)) bk hb); have n2_ := Aside0.mk (below_step bl hb); clear BK293; clear BK299; clear HB; have BK293 := n0_; have BK299 := n1_; have HB := n2_; clear n0_ n1_ n2_; (try clear hb); (try clear hb2); (try clear hk); (try clear hi)) | ((with_reducible refine gate_dst (N := 20) rfl ?_); (try (refine gate_guard (by rfl) ?_; dsimp only)); refine box_event ?hg (N := 20) ?hd (cs := #[.int .i64 0, .bool false, .string (⟨#[]⟩ : ByteArray), .string (⟨#[]⟩ : ByteArray)]) (t := 40) ?hr ?_; (case hd => rfl); (case hg => rfl); (case hr => first | (go_simp; done) | (go_simp; rfl)); intro gb306 hg w91 hbox hb; have n0_ := Aside0.mk (blk_below (g := gb293) (o := .cells #[.int .i64 t288, .bool t289, .string t290, .string t291] 40 (0, 0)) bk hb); have n1_ := Aside0.mk (blk_below (g := gb299) (o := .cells #[.int .i64 t294, .bool t295, .string t296, .string t297] 40 (0, 0)) bk hb); have n2_ := Aside0.mk (below_step bl hb); have n3_ := Aside0.mk (hbox); have n4_ := Aside0.mk ((by rw [hg]; exact (below_size bl) : w.heap.size ≤ gb306)); have n5_ := Aside0.mk ((by rw [hg]; exact (below_size bl) : w.heap.size ≤ gb306)); have n6_ := Aside0.mk ((by rw [hg]; exact Nat.ne_of_lt (blk_lt (g := gb293) (o := .cells #[.int .i64 t288, .bool t289, .string t290, .string t291] 40 (0, 0)) bk) : gb293 ≠ gb306)); have n7_ := Aside0.mk ((by rw [hg]; exact Nat.ne_of_gt (blk_lt (g := gb293) (o := .cells #[.int .i64 t288, .bool t289, .string t290, .string t291] 40 (0, 0)) bk) : gb306 ≠ gb293)); have n8_ := Aside0.mk ((by rw [hg]; exact Nat.ne_of_lt (blk_lt (g := gb299) (o := .cells #[.int .i64 t294, .bool t295, .string t296, .string t297] 40 (0, 0)) bk) : gb299 ≠ gb306)); have n9_ := Aside0.mk ((by rw [hg]; exact Nat.ne_of_gt (blk_lt (g := gb299) (o := .cells #[.int .i64 t294, .bool t295, .string t296, .string t297] 40 (0, 0)) bk) : gb306 ≠ gb299)); clear BK293; clear BK299; clear HB; have BK293 := n0_; have BK299 := n1_; have HB := n2_; have BK306 := n3_; have GW306 := n4_; have GE306 := n5_; have NB293_306 := n6_; have NB306_293 := n7_; have NB299_306 := n8_; have NB306_299 := n9_; clear n0_ n1_ n2_ n3_ n4_ n5_ n6_ n7_ n8_ n9_; clear hb hbox hg; have hnb92 := NB306_293.out; have hnc92 := NB293_306.out; have hnb93 := NB306_299.out; have hnc93 := NB299_306.out; have hcz94_0 : w91.cell? ⟨gb306, 0, none⟩ = some (.int .i64 0) := (blk_cell BK306.out 0).trans rfl; have hcz94_1 : w91.cell? ⟨gb306, 1, none⟩ = some (.bool false) := (blk_cell BK306.out 1).trans rfl; have hcz94_2 : w91.cell? ⟨gb306, 2, none⟩ = some (.string (⟨#[]⟩ : ByteArray)) := (blk_cell BK306.out 2).trans rfl; have hcz94_3 : w91.cell? ⟨gb306, 3, none⟩ = some (.string (⟨#[]⟩ : ByteArray)) := (blk_cell BK306.out 3).trans rfl; have hfz94_0 := blk_frozen BK306.out 0; have hfz94_1 := blk_frozen BK306.out 1; have hfz94_2 := blk_frozen BK306.out 2; have hfz94_3 := blk_frozen BK306.out 3) | ((with_reducible refine gate_callee (f := 24) rfl ?_); refine goesL_ (some 101) rfl rfl Tryd.func24 (by kernel_rfl) rfl #[.string t287, .int .i64 (t285.size : Int)] rfl (by (try simp only [List.map_toArray, List.map_cons, List.map_nil]); first | done | rfl | (simp only [List.length_drop, List.length_take]; rfl)) ?_; (with_reducible refine (targumref4_Add.calls _ _ _ _ _ A25.out).mono ?_); rintro e w95 ⟨rfl, hb⟩; refine ⟨_, rfl, ?_⟩; have n0_ := Aside0.mk (blk_below (g := gb293) (o := .cells #[.int .i64 t288, .bool t289, .string t290, .string t291] 40 (0, 0)) bk hb); have n1_ := Aside0.mk (blk_below (g := gb299) (o := .cells #[.int .i64 t294, .bool t295, .string t296, .string t297] 40 (0, 0)) bk hb); have n2_ := Aside0.mk (blk_below (g := gb306) (o := .cells #[.int .i64 t301, .bool t302, .string t303, .string t304] 40 (0, 0)) bk hb); have n3_ := Aside0.mk (below_step bl hb); clear BK293; clear BK299; clear BK306; clear HB; have BK293 := n0_; have BK299 := n1_; have BK306 := n2_; have HB := n3_; clear n0_ n1_ n2_ n3_; (try clear hb); (try clear hb2); (try clear hk); (try clear hi)) | ((with_reducible refine gate_callee (f := 29) rfl ?_); refine goesL_ (some 102) rfl rfl Tryd.func29 (by kernel_rfl) rfl #[.bool a2, .string (⟨#[]⟩ : ByteArray), .string (t285 ++ t286), .string t307] rfl (by (try simp only [List.map_toArray, List.map_cons, List.map_nil]); first | done | rfl | (simp only [List.length_drop, List.length_take]; rfl)) ?_; (with_reducible refine (dec_Make.calls _ _ _ _ _ _ _ _ _ _ _ ?side1 A26.out).mono ?_); (case side1 => exact Go.Proofs.YtddaggnomcoejaaDoor.PDT.Tabs_below HG.out bl); rintro e w96 ⟨rfl, hb⟩; refine ⟨_, rfl, ?_⟩; have n0_ := Aside0.mk (blk_below (g := gb293) (o := .cells #[.int .i64 t288, .bool t289, .string t290, .string t291] 40 (0, 0)) bk hb); have n1_ := Aside0.mk (blk_below (g := gb299) (o := .cells #[.int .i64 t294, .bool t295, .string t296, .string t297] 40 (0, 0)) bk hb); have n2_ := Aside0.mk (blk_below (g := gb306) (o := .cells #[.int .i64 t301, .bool t302, .string t303, .string t304] 40 (0, 0)) bk hb); have n3_ := Aside0.mk (below_step bl hb); clear BK293; clear BK299; clear BK306; clear HB; have BK293 := n0_; have BK299 := n1_; have BK306 := n2_; have HB := n3_; clear n0_ n1_ n2_ n3_; (try clear hb); (try clear hb2); (try clear hk); (try clear hi)) | ((with_reducible refine gate_dst (N := 22) rfl ?_); (try (refine gate_guard (by rfl) ?_; dsimp only)); refine box_event ?hg (N := 22) ?hd (cs := #[.int .i64 0, .bool false, .string (⟨#[]⟩ : ByteArray), .string (⟨#[]⟩ : ByteArray)]) (t := 40) ?hr ?_; (case hd => rfl); (case hg => rfl); (case hr => first | (go_simp; done) | (go_simp; rfl)); intro gb313 hg w97 hbox hb; have n0_ := Aside0.mk (blk_below (g := gb293) (o := .cells #[.int .i64 t288, .bool t289, .string t290, .string t291] 40 (0, 0)) bk hb); have n1_ := Aside0.mk (blk_below (g := gb299) (o := .cells #[.int .i64 t294, .bool t295, .string t296, .string t297] 40 (0, 0)) bk hb); have n2_ := Aside0.mk (blk_below (g := gb306) (o := .cells #[.int .i64 t301, .bool t302, .string t303, .string t304] 40 (0, 0)) bk hb); have n3_ := Aside0.mk (below_step bl hb); have n4_ := Aside0.mk (hbox); have n5_ := Aside0.mk ((by rw [hg]; exact (below_size bl) : w.heap.size ≤ gb313)); have n6_ := Aside0.mk ((by rw [hg]; exact (below_size bl) : w.heap.size ≤ gb313)); have n7_ := Aside0.mk ((by rw [hg]; exact Nat.ne_of_lt (blk_lt (g := gb293) (o := .cells #[.int .i64 t288, .bool t289, .string t290, .string t291] 40 (0, 0)) bk) : gb293 ≠ gb313)); have n8_ := Aside0.mk ((by rw [hg]; exact Nat.ne_of_gt (blk_lt (g := gb293) (o := .cells #[.int .i64 t288, .bool t289, .string t290, .string t291] 40 (0, 0)) bk) : gb313 ≠ gb293)); have n9_ := Aside0.mk ((by rw [hg]; exact Nat.ne_of_lt (blk_lt (g := gb299) (o := .cells #[.int .i64 t294, .bool t295, .string t296, .string t297] 40 (0, 0)) bk) : gb299 ≠ gb313)); have n10_ := Aside0.mk ((by rw [hg]; exact Nat.ne_of_gt (blk_lt (g := gb299) (o := .cells #[.int .i64 t294, .bool t295, .string t296, .string t297] 40 (0, 0)) bk) : gb313 ≠ gb299)); have n11_ := Aside0.mk ((by rw [hg]; exact Nat.ne_of_lt (blk_lt (g := gb306) (o := .cells #[.int .i64 t301, .bool t302, .string t303, .string t304] 40 (0, 0)) bk) : gb306 ≠ gb313)); have n12_ := Aside0.mk ((by rw [hg]; exact Nat.ne_of_gt (blk_lt (g := gb306) (o := .cells #[.int .i64 t301, .bool t302, .string t303, .string t304] 40 (0, 0)) bk) : gb313 ≠ gb306)); clear BK293; clear BK299; clear BK306; clear HB; have BK293 := n0_; have BK299 := n1_; have BK306 := n2_; have HB := n3_; have BK313 := n4_; have GW313 := n5_; have GE313 := n6_; have NB293_313 := n7_; have NB313_293 := n8_; have NB299_313 := n9_; have NB313_299 := n10_; have NB306_313 := n11_; have NB313_306 := n12_; clear n0_ n1_ n2_ n3_ n4_ n5_ n6_ n7_ n8_ n9_ n10_ n11_ n12_; clear hb hbox hg; have hnb98 := NB313_293.out; have hnc98 := NB293_313.out; have hnb99 := NB313_299.out; have hnc99 := NB299_313.out; have hnb100 := NB313_306.out; have hnc100 := NB306_313.out; have hcz101_0 : w97.cell? ⟨gb313, 0, none⟩ = some (.int .i64 0) := (blk_cell BK313.out 0).trans rfl; have hcz101_1 : w97.cell? ⟨gb313, 1, none⟩ = some (.bool false) := (blk_cell BK313.out 1).trans rfl; have hcz101_2 : w97.cell? ⟨gb313, 2, none⟩ = some (.string (⟨#[]⟩ : ByteArray)) := (blk_cell BK313.out 2).trans rfl; have hcz101_3 : w97.cell? ⟨gb313, 3, none⟩ = some (.string (⟨#[]⟩ : ByteArray)) := (blk_cell BK313.out 3).trans rfl; have hfz101_0 := blk_frozen BK313.out 0; have hfz101_1 := blk_frozen BK313.out 1; have hfz101_2 := blk_frozen BK313.out 2; have hfz101_3 := blk_frozen BK313.out 3) | ((with_reducible refine gate_callee (f := 24) rfl ?_); refine goesL_ (some 119) rfl rfl Tryd.func24 (by kernel_rfl) rfl #[.string t287, .int .i64 (wrap64 ((wrap64 (-(t286.size : Int))) - (x11_2.size : Int)))] rfl (by (try simp only [List.map_toArray, List.map_cons, List.map_nil]); first | done | rfl | (simp only [List.length_drop, List.length_take]; rfl)) ?_; (with_reducible refine (targumref4_Add.calls _ _ _ _ _ A28.out).mono ?_); rintro e w102 ⟨rfl, hb⟩; refine ⟨_, rfl, ?_⟩; have n0_ := Aside0.mk (blk_below (g := gb293) (o := .cells #[.int .i64 t288, .bool t289, .string t290, .string t291] 40 (0, 0)) bk hb); have n1_ := Aside0.mk (blk_below (g := gb299) (o := .cells #[.int .i64 t294, .bool t295, .string t296, .string t297] 40 (0, 0)) bk hb); have n2_ := Aside0.mk (blk_below (g := gb306) (o := .cells #[.int .i64 t301, .bool t302, .string t303, .string t304] 40 (0, 0)) bk hb); have n3_ := Aside0.mk (blk_below (g := gb313) (o := .cells #[.int .i64 t308, .bool t309, .string t310, .string t311] 40 (0, 0)) bk hb); have n4_ := Aside0.mk (below_step bl hb); clear BK293; clear BK299; clear BK306; clear BK313; clear HB; have BK293 := n0_; have BK299 := n1_; have BK306 := n2_; have BK313 := n3_; have HB := n4_; clear n0_ n1_ n2_ n3_ n4_; (try clear hb); (try clear hb2); (try clear hk); (try clear hi)) | ((with_reducible refine gate_callee (f := 24) rfl ?_); refine goesL_ (some 119) rfl rfl Tryd.func24 (by kernel_rfl) rfl #[.string t287, .int .i64 ((((-(t286.size : Int))) - (x11_2.size : Int)))] rfl (by (try simp only [List.map_toArray, List.map_cons, List.map_nil]); first | done | rfl | (simp only [List.length_drop, List.length_take]; rfl)) ?_; (with_reducible refine (targumref4_Add.calls k2 t287 ((((-(t286.size : Int))) - (x11_2.size : Int))) t314 _ A28z.out).mono ?_); rintro e w102 ⟨rfl, hb⟩; refine ⟨_, rfl, ?_⟩; have n0_ := Aside0.mk (blk_below (g := gb293) (o := .cells #[.int .i64 t288, .bool t289, .string t290, .string t291] 40 (0, 0)) bk hb); have n1_ := Aside0.mk (blk_below (g := gb299) (o := .cells #[.int .i64 t294, .bool t295, .string t296, .string t297] 40 (0, 0)) bk hb); have n2_ := Aside0.mk (blk_below (g := gb306) (o := .cells #[.int .i64 t301, .bool t302, .string t303, .string t304] 40 (0, 0)) bk hb); have n3_ := Aside0.mk (blk_below (g := gb313) (o := .cells #[.int .i64 t308, .bool t309, .string t310, .string t311] 40 (0, 0)) bk hb); have n4_ := Aside0.mk (below_step bl hb); clear BK293; clear BK299; clear BK306; clear BK313; clear HB; have BK293 := n0_; have BK299 := n1_; have BK306 := n2_; have BK313 := n3_; have HB := n4_; clear n0_ n1_ n2_ n3_ n4_; (try clear hb); (try clear hb2); (try clear hk); (try clear hi)) | ((with_reducible refine gate_callee (f := 29) rfl ?_); refine goesL_ (some 120) rfl rfl Tryd.func29 (by kernel_rfl) rfl #[.bool a2, .string ((t285 ++ t286) ++ x11_2), .string (⟨#[]⟩ : ByteArray), .string t314] rfl (by (try simp only [List.map_toArray, List.map_cons, List.map_nil]); first | done | rfl | (simp only [List.length_drop, List.length_take]; rfl)) ?_; (with_reducible refine (dec_Make.calls _ _ _ _ _ _ _ _ _ _ _ ?side1 A29.out).mono ?_); (case side1 => exact Go.Proofs.YtddaggnomcoejaaDoor.PDT.Tabs_below HG.out bl); rintro e w103 ⟨rfl, hb⟩; refine ⟨_, rfl, ?_⟩; have n0_ := Aside0.mk (blk_below (g := gb293) (o := .cells #[.int .i64 t288, .bool t289, .string t290, .string t291] 40 (0, 0)) bk hb); have n1_ := Aside0.mk (blk_below (g := gb299) (o := .cells #[.int .i64 t294, .bool t295, .string t296, .string t297] 40 (0, 0)) bk hb); have n2_ := Aside0.mk (blk_below (g := gb306) (o := .cells #[.int .i64 t301, .bool t302, .string t303, .string t304] 40 (0, 0)) bk hb); have n3_ := Aside0.mk (blk_below (g := gb313) (o := .cells #[.int .i64 t308, .bool t309, .string t310, .string t311] 40 (0, 0)) bk hb); have n4_ := Aside0.mk (below_step bl hb); clear BK293; clear BK299; clear BK306; clear BK313; clear HB; have BK293 := n0_; have BK299 := n1_; have BK306 := n2_; have BK313 := n3_; have HB := n4_; clear n0_ n1_ n2_ n3_ n4_; (try clear hb); (try clear hb2); (try clear hk); (try clear hi)) | ((with_reducible refine gate_dst (N := 24) rfl ?_); (try (refine gate_guard (by rfl) ?_; dsimp only)); refine box_event ?hg (N := 24) ?hd (cs := #[.int .i64 0, .bool false, .string (⟨#[]⟩ : ByteArray), .string (⟨#[]⟩ : ByteArray)]) (t := 40) ?hr ?_; (case hd => rfl); (case hg => rfl); (case hr => first | (go_simp; done) | (go_simp; rfl)); intro gb320 hg w104 hbox hb; have n0_ := Aside0.mk (blk_below (g := gb293) (o := .cells #[.int .i64 t288, .bool t289, .string t290, .string t291] 40 (0, 0)) bk hb); have n1_ := Aside0.mk (blk_below (g := gb299) (o := .cells #[.int .i64 t294, .bool t295, .string t296, .string t297] 40 (0, 0)) bk hb); have n2_ := Aside0.mk (blk_below (g := gb306) (o := .cells #[.int .i64 t301, .bool t302, .string t303, .string t304] 40 (0, 0)) bk hb); have n3_ := Aside0.mk (blk_below (g := gb313) (o := .cells #[.int .i64 t308, .bool t309, .string t310, .string t311] 40 (0, 0)) bk hb); have n4_ := Aside0.mk (below_step bl hb); have n5_ := Aside0.mk (hbox); have n6_ := Aside0.mk ((by rw [hg]; exact (below_size bl) : w.heap.size ≤ gb320)); have n7_ := Aside0.mk ((by rw [hg]; exact (below_size bl) : w.heap.size ≤ gb320)); have n8_ := Aside0.mk ((by rw [hg]; exact Nat.ne_of_lt (blk_lt (g := gb293) (o := .cells #[.int .i64 t288, .bool t289, .string t290, .string t291] 40 (0, 0)) bk) : gb293 ≠ gb320)); have n9_ := Aside0.mk ((by rw [hg]; exact Nat.ne_of_gt (blk_lt (g := gb293) (o := .cells #[.int .i64 t288, .bool t289, .string t290, .string t291] 40 (0, 0)) bk) : gb320 ≠ gb293)); have n10_ := Aside0.mk ((by rw [hg]; exact Nat.ne_of_lt (blk_lt (g := gb299) (o := .cells #[.int .i64 t294, .bool t295, .string t296, .string t297] 40 (0, 0)) bk) : gb299 ≠ gb320)); have n11_ := Aside0.mk ((by rw [hg]; exact Nat.ne_of_gt (blk_lt (g := gb299) (o := .cells #[.int .i64 t294, .bool t295, .string t296, .string t297] 40 (0, 0)) bk) : gb320 ≠ gb299)); have n12_ := Aside0.mk ((by rw [hg]; exact Nat.ne_of_lt (blk_lt (g := gb306) (o := .cells #[.int .i64 t301, .bool t302, .string t303, .string t304] 40 (0, 0)) bk) : gb306 ≠ gb320)); have n13_ := Aside0.mk ((by rw [hg]; exact Nat.ne_of_gt (blk_lt (g := gb306) (o := .cells #[.int .i64 t301, .bool t302, .string t303, .string t304] 40 (0, 0)) bk) : gb320 ≠ gb306)); have n14_ := Aside0.mk ((by rw [hg]; exact Nat.ne_of_lt (blk_lt (g := gb313) (o := .cells #[.int .i64 t308, .bool t309, .string t310, .string t311] 40 (0, 0)) bk) : gb313 ≠ gb320)); have n15_ := Aside0.mk ((by rw [hg]; exact Nat.ne_of_gt (blk_lt (g := gb313) (o := .cells #[.int .i64 t308, .bool t309, .string t310, .string t311] 40 (0, 0)) bk) : gb320 ≠ gb313)); clear BK293; clear BK299; clear BK306; clear BK313; clear HB; have BK293 := n0_; have BK299 := n1_; have BK306 := n2_; have BK313 := n3_; have HB := n4_; have BK320 := n5_; have GW320 := n6_; have GE320 := n7_; have NB293_320 := n8_; have NB320_293 := n9_; have NB299_320 := n10_; have NB320_299 := n11_; have NB306_320 := n12_; have NB320_306 := n13_; have NB313_320 := n14_; have NB320_313 := n15_; clear n0_ n1_ n2_ n3_ n4_ n5_ n6_ n7_ n8_ n9_ n10_ n11_ n12_ n13_ n14_ n15_; clear hb hbox hg; have hnb105 := NB320_293.out; have hnc105 := NB293_320.out; have hnb106 := NB320_299.out; have hnc106 := NB299_320.out; have hnb107 := NB320_306.out; have hnc107 := NB306_320.out; have hnb108 := NB320_313.out; have hnc108 := NB313_320.out; have hcz109_0 : w104.cell? ⟨gb320, 0, none⟩ = some (.int .i64 0) := (blk_cell BK320.out 0).trans rfl; have hcz109_1 : w104.cell? ⟨gb320, 1, none⟩ = some (.bool false) := (blk_cell BK320.out 1).trans rfl; have hcz109_2 : w104.cell? ⟨gb320, 2, none⟩ = some (.string (⟨#[]⟩ : ByteArray)) := (blk_cell BK320.out 2).trans rfl; have hcz109_3 : w104.cell? ⟨gb320, 3, none⟩ = some (.string (⟨#[]⟩ : ByteArray)) := (blk_cell BK320.out 3).trans rfl; have hfz109_0 := blk_frozen BK320.out 0; have hfz109_1 := blk_frozen BK320.out 1; have hfz109_2 := blk_frozen BK320.out 2; have hfz109_3 := blk_frozen BK320.out 3; have hcz110_0 : w104.cell? ⟨gb293, 0, none⟩ = some (.int .i64 t288) := (blk_cell BK293.out 0).trans rfl; have hcz110_1 : w104.cell? ⟨gb293, 1, none⟩ = some (.bool t289) := (blk_cell BK293.out 1).trans rfl; have hcz110_2 : w104.cell? ⟨gb293, 2, none⟩ = some (.string t290) := (blk_cell BK293.out 2).trans rfl; have hcz110_3 : w104.cell? ⟨gb293, 3, none⟩ = some (.string t291) := (blk_cell BK293.out 3).trans rfl; have hfz110_0 := blk_frozen BK293.out 0; have hfz110_1 := blk_frozen BK293.out 1; have hfz110_2 := blk_frozen BK293.out 2; have hfz110_3 := blk_frozen BK293.out 3; have hcz111_0 : w104.cell? ⟨gb299, 0, none⟩ = some (.int .i64 t294) := (blk_cell BK299.out 0).trans rfl; have hcz111_1 : w104.cell? ⟨gb299, 1, none⟩ = some (.bool t295) := (blk_cell BK299.out 1).trans rfl; have hcz111_2 : w104.cell? ⟨gb299, 2, none⟩ = some (.string t296) := (blk_cell BK299.out 2).trans rfl; have hcz111_3 : w104.cell? ⟨gb299, 3, none⟩ = some (.string t297) := (blk_cell BK299.out 3).trans rfl; have hfz111_0 := blk_frozen BK299.out 0; have hfz111_1 := blk_frozen BK299.out 1; have hfz111_2 := blk_frozen BK299.out 2; have hfz111_3 := blk_frozen BK299.out 3; have hcz112_0 : w104.cell? ⟨gb306, 0, none⟩ = some (.int .i64 t301) := (blk_cell BK306.out 0).trans rfl; have hcz112_1 : w104.cell? ⟨gb306, 1, none⟩ = some (.bool t302) := (blk_cell BK306.out 1).trans rfl; have hcz112_2 : w104.cell? ⟨gb306, 2, none⟩ = some (.string t303) := (blk_cell BK306.out 2).trans rfl; have hcz112_3 : w104.cell? ⟨gb306, 3, none⟩ = some (.string t304) := (blk_cell BK306.out 3).trans rfl; have hfz112_0 := blk_frozen BK306.out 0; have hfz112_1 := blk_frozen BK306.out 1; have hfz112_2 := blk_frozen BK306.out 2; have hfz112_3 := blk_frozen BK306.out 3; have hcz113_0 : w104.cell? ⟨gb313, 0, none⟩ = some (.int .i64 t308) := (blk_cell BK313.out 0).trans rfl; have hcz113_1 : w104.cell? ⟨gb313, 1, none⟩ = some (.bool t309) := (blk_cell BK313.out 1).trans rfl; have hcz113_2 : w104.cell? ⟨gb313, 2, none⟩ = some (.string t310) := (blk_cell BK313.out 2).trans rfl; have hcz113_3 : w104.cell? ⟨gb313, 3, none⟩ = some (.string t311) := (blk_cell BK313.out 3).trans rfl; have hfz113_0 := blk_frozen BK313.out 0; have hfz113_1 := blk_frozen BK313.out 1; have hfz113_2 := blk_frozen BK313.out 2; have hfz113_3 := blk_frozen BK313.out 3) | (go_at_call 33; (with_reducible refine (dec_Good.calls _ _ _ _ _ _ _ A39.out).mono ?_); rintro e w114 ⟨rfl, hb⟩; have n0_ := Aside0.mk (blk_below (g := gb293) (o := .cells #[.int .i64 t288, .bool t289, .string t290, .string t291] 40 (0, 0)) bk hb); have n1_ := Aside0.mk (blk_below (g := gb299) (o := .cells #[.int .i64 t294, .bool t295, .string t296, .string t297] 40 (0, 0)) bk hb); have n2_ := Aside0.mk (blk_below (g := gb306) (o := .cells #[.int .i64 t301, .bool t302, .string t303, .string t304] 40 (0, 0)) bk hb); have n3_ := Aside0.mk (blk_below (g := gb313) (o := .cells #[.int .i64 t308, .bool t309, .string t310, .string t311] 40 (0, 0)) bk hb); have n4_ := Aside0.mk (blk_below (g := gb320) (o := .cells #[.int .i64 t315, .bool t316, .string t317, .string t318] 40 (0, 0)) bk hb); have n5_ := Aside0.mk (below_step bl hb); clear BK293; clear BK299; clear BK306; clear BK313; clear BK320; clear HB; have BK293 := n0_; have BK299 := n1_; have BK306 := n2_; have BK313 := n3_; have BK320 := n4_; have HB := n5_; clear n0_ n1_ n2_ n3_ n4_ n5_; (try clear hb); (try clear hb2); (try clear hk); (try clear hi); have hcz115_0 : w114.cell? ⟨gb293, 0, none⟩ = some (.int .i64 t288) := (blk_cell BK293.out 0).trans rfl; have hcz115_1 : w114.cell? ⟨gb293, 1, none⟩ = some (.bool t289) := (blk_cell BK293.out 1).trans rfl; have hcz115_2 : w114.cell? ⟨gb293, 2, none⟩ = some (.string t290) := (blk_cell BK293.out 2).trans rfl; have hcz115_3 : w114.cell? ⟨gb293, 3, none⟩ = some (.string t291) := (blk_cell BK293.out 3).trans rfl; have hfz115_0 := blk_frozen BK293.out 0; have hfz115_1 := blk_frozen BK293.out 1; have hfz115_2 := blk_frozen BK293.out 2; have hfz115_3 := blk_frozen BK293.out 3))
              go_ret
              exact ⟨by first | rfl | (simp [errW_none, errW_some] <;> rfl) | (simp [*, errW_none, errW_some] <;> rfl), bl⟩
           ·rw [if_neg c27] at H
            exact absurd H (by simp)
          ·rw [if_neg c22] at H
           exact absurd H (by simp)
         ·rw [if_neg c20] at H
          exact absurd H (by simp)
        ·rw [if_neg c19] at H
         exact absurd H (by simp)
 ·replace c7 := Bool.eq_false_iff.mpr c7
  subst c7
  have H1 : (some false) = some r := by rw [if_neg (show ¬ (false = true) by decide)] at H; exact H
  clear H
  have H := H1
  clear H1
  obtain rfl := Option.some.inj H
  go_enter Tryd.func11, Tryd.ntmps11
  go_wp2_with (first | ((with_reducible refine gate_callee (f := 28) rfl ?_); refine goesL_ (some 26) rfl rfl Tryd.func28 (by kernel_rfl) rfl #[] rfl (by (try simp only [List.map_toArray, List.map_cons, List.map_nil]); first | done | rfl | (simp only [List.length_drop, List.length_take]; rfl)) ?_; (with_reducible refine (targumlaw5_known.calls k  false _ ?side1 A6.out).mono ?_); (case side1 => exact Go.Proofs.YtddaggnomcoejaaDoor.PDT.Tabs_below HG.out bl); rintro e w444 ⟨rfl, hb⟩; refine ⟨_, rfl, ?_⟩; have n0_ := Aside0.mk (below_step bl hb); clear HB; have HB := n0_; clear n0_; (try clear hb); (try clear hb2); (try clear hk); (try clear hi)))
  go_ret
  exact ⟨by first | rfl | (simp [errW_none, errW_some] <;> rfl) | (simp [*, errW_none, errW_some] <;> rfl), bl⟩

/-- THE ONE PURE STATEMENT of targumlaw5_DecShifts: yours. -/
def targumlaw5_DecShifts.Pure : Prop := ∀ (a0 : ByteArray) (a1 : ByteArray) (a2 : Bool) (a3 : Int) (a4 : Int), a0.size ≤ 140737488351232 → a1.size ≤ 140737488351232 → (Lit.int .i32 a3).wf = true → (Lit.int .u8 a4).wf = true → ∃ k, targumlaw5_DecShifts.f k a0 a1 a2 a3 a4 = some true
theorem targumlaw5_DecShifts.walk (P : targumlaw5_DecShifts.Pure) (a0 : ByteArray) (a1 : ByteArray) (a2 : Bool) (a3 : Int) (a4 : Int) (w : World) (w0 : a0.size ≤ 140737488351232) (w1 : a1.size ≤ 140737488351232) (w3 : (Lit.int .i32 a3).wf = true) (w4 : (Lit.int .u8 a4).wf = true) (hG : Go.Proofs.YtddaggnomcoejaaDoor.PDT.Tabs w) :
  Calls Tryd.prog 11 #[.string a0, .string a1, .bool a2, .int .i32 a3, .int .u8 a4] w fun e w' => e = .returned (.bool true) ∧ Below w.heap.size w w' := by
 obtain ⟨k, h⟩ := P a0 a1 a2 a3 a4 w0 w1 w3 w4
 refine (targumlaw5_DecShifts.calls k a0 a1 a2 a3 a4 true w hG h).mono ?_
 rintro e w' ⟨rfl, hd⟩
 exact ⟨rfl, hd⟩

end Go.Proofs.YtddaggnomcoejaaDoor.PD
