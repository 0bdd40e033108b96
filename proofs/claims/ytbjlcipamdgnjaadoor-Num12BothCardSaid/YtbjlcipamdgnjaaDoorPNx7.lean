/- Written by this session's own program (xprint, made over the kit's print): Lean functions with the same answers as the Go functions, and the proofs of that. Not trusted: Lean checks it. -/
import Derived.Test.YtbjlcipamdgnjaaDoorPNx0
import Derived.Test.YtbjlcipamdgnjaaDoorPNx6
import Derived.Test.YtbjlcipamdgnjaaDoorXW
namespace Go.Proofs.YtbjlcipamdgnjaaDoor.PN
open Go.Proofs.YtbjlcipamdgnjaaDoor.XW Go.RowKit Go.Proofs.YtbjlcipamdgnjaaDoorW.PrintWords Go.Proofs.YtbjlcipamdgnjaaDoorW.PrintLast Go.Proofs.YtbjlcipamdgnjaaDoorW.PrintMore
attribute [local go_sem] max2_int min2_int max_two min_two max_three min_three max_four min_four   -- for this text's walks alone
set_option linter.unusedVariables false
set_option linter.unusedSimpArgs false

/-! ### targumref4_Value: function 48 -/
mutual
def targumref4_Value.j0 : Nat → Int → Bool → Option (Int)
 | 0, _, _ => none
 | k + 1, x0, x3 => if x3 = true then (some ((x0 - 48) % 256)) else (if x0 ≥ 97 then (targumref4_Value.j1 k x0 (decide (x0 ≤ 102))) else (targumref4_Value.j1 k x0 false))
def targumref4_Value.j1 : Nat → Int → Bool → Option (Int)
 | 0, _, _ => none
 | k + 1, x0, x13 => if x13 = true then (some (((x0 - 97) % 256) + 10)) else (if x0 ≥ 65 then (if x0 ≤ 70 then (some (((x0 - 65) % 256) + 10)) else (some 99)) else (some 99))
end
def targumref4_Value.f (k : Nat) (a0 : Int) : Option (Int) := if a0 ≥ 48 then (targumref4_Value.j0 k a0 (decide (a0 ≤ 57))) else (targumref4_Value.j0 k a0 false)
theorem targumref4_Value.mono_l : ∀ k, (∀ y0 y1, LeO (targumref4_Value.j0 k y0 y1) (targumref4_Value.j0 (k + 1) y0 y1)) ∧ (∀ y0 y1, LeO (targumref4_Value.j1 k y0 y1) (targumref4_Value.j1 (k + 1) y0 y1))
 | 0 => ⟨fun _ _ r h => by simp [targumref4_Value.j0] at h, fun _ _ r h => by simp [targumref4_Value.j1] at h⟩
 | k + 1 => by
  obtain ⟨ih0, ih1⟩ := targumref4_Value.mono_l k
  refine ⟨?_, ?_⟩
  ·intro y0 y1
   unfold targumref4_Value.j0
   repeat' first
   | (with_reducible exact ih0 _ _)
   | (with_reducible exact ih1 _ _)
   | (with_reducible exact LeO.refl _)
   | (with_reducible exact LeO.none _)
   | (with_reducible refine LeO.ite ?_ ?_)
   | (with_reducible refine LeO.bind ?_ (fun _ => ?_))
   | exact ih0 _ _
   | exact ih1 _ _
   | exact LeO.none _
   | refine LeO.ite ?_ ?_
   | refine LeO.bind ?_ (fun _ => ?_)
  ·intro y0 y1
   unfold targumref4_Value.j1
   repeat' first
   | (with_reducible exact ih0 _ _)
   | (with_reducible exact ih1 _ _)
   | (with_reducible exact LeO.refl _)
   | (with_reducible exact LeO.none _)
   | (with_reducible refine LeO.ite ?_ ?_)
   | (with_reducible refine LeO.bind ?_ (fun _ => ?_))
   | exact ih0 _ _
   | exact ih1 _ _
   | exact LeO.none _
   | refine LeO.ite ?_ ?_
   | refine LeO.bind ?_ (fun _ => ?_)
theorem targumref4_Value.mono : ∀ a0 k, LeO (targumref4_Value.f k a0) (targumref4_Value.f (k + 1) a0) := by
 intro a0 k
 obtain ⟨ih0, ih1⟩ := targumref4_Value.mono_l k
 unfold targumref4_Value.f
 repeat' first
   | (with_reducible exact ih0 _ _)
   | (with_reducible exact ih1 _ _)
   | (with_reducible exact LeO.refl _)
   | (with_reducible exact LeO.none _)
   | (with_reducible refine LeO.ite ?_ ?_)
   | (with_reducible refine LeO.bind ?_ (fun _ => ?_))
   | exact ih0 _ _
   | exact ih1 _ _
   | exact LeO.none _
   | refine LeO.ite ?_ ?_
   | refine LeO.bind ?_ (fun _ => ?_)
set_option maxHeartbeats 8000000 in
set_option maxRecDepth 100000 in
theorem targumref4_Value.calls (k : Nat) (a0 : Int) (r : Int) (w : World) (h : targumref4_Value.f k a0 = some r) :
  Calls Tryd.prog 48 #[.int .u8 a0] w fun e w' => e = .returned (.int .i64 r) ∧ Drawn0 w w' := by
 have H : (if a0 ≥ 48 then (targumref4_Value.j0 k a0 (decide (a0 ≤ 57))) else (targumref4_Value.j0 k a0 false)) = some r := h
 clear h
 have HC2 := Aside0.mk H
 clear H
 go_enter Tryd.func48, Tryd.ntmps48
 go_upto_region 1 with (fail)
 go_cut [3] (fun v3 wc => ∃ (kq : Nat) (x3_1 : Bool), v3 = .bool x3_1 ∧ Aside0 (targumref4_Value.j0 kq a0 x3_1 = some r) ∧ Aside0 (kq ≤ k) ∧ Drawn0 w wc)
 case first =>
  have H := HC2.out
  clear HC2
  by_cases c3 : a0 ≥ 48
  ·rw [if_pos c3] at H
   have c3b0 : decide (48 ≤ a0) = true := decide_eq_true c3
   clear c3
   (first | rw [c3b0] | (simp only [i64_w, i32_w]; rw [c3b0]) | skip)
   have H' := Aside0.mk H
   clear H
   go_wp2
   go_meet
   case rel => exact ⟨_, (decide (a0 ≤ 57)), (by first | rfl | (simp; done) | (simp [*]; done) | (simp [wrap64]; done)), H', ⟨by first | omega | exact Nat.le_refl _⟩, by repeat (first | exact Drawn0.refl _ | apply Drawn0.step)⟩
  ·rw [if_neg c3] at H
   have c3b0 : decide (48 ≤ a0) = false := decide_eq_false c3
   clear c3
   (first | rw [c3b0] | (simp only [i64_w, i32_w]; rw [c3b0]) | skip)
   have H' := Aside0.mk H
   clear H
   go_wp2
   go_meet
   case rel => exact ⟨_, (false), (by first | rfl | (simp; done) | (simp [*]; done) | (simp [wrap64]; done)), H', ⟨by first | omega | exact Nat.le_refl _⟩, by repeat (first | exact Drawn0.refl _ | apply Drawn0.step)⟩
 case rest =>
  clear HC2
  try clear p2; try clear c3; try clear c3b0
  obtain ⟨kq, x3_1, rfl, HA, HJ1, ⟨mc1, rfl⟩⟩ := hcut
  cases kq with
  | zero => exact absurd HA.out (by simp [targumref4_Value.j0])
  | succ kj1 =>
   have H := HA.out
   clear HA
   simp only [targumref4_Value.j0] at H
   by_cases c4 : x3_1 = true
   ·subst c4
    have H1 : (some ((a0 - 48) % 256)) = some r := by rw [if_pos rfl] at H; exact H
    clear H
    have H := H1
    clear H1
    obtain rfl := Option.some.inj H
    go_wp2
    go_ret
    exact ⟨by first | rfl | (simp; done) | (simp [*]; done) | (simp [wrap64]; done) | (simp; (generalize ByteArray.toList _ = z_); cases z_ <;> first | rfl | simp), by repeat (first | exact Drawn0.refl _ | apply Drawn0.step)⟩
   ·replace c4 := Bool.eq_false_iff.mpr c4
    subst c4
    have H1 : (if a0 ≥ 97 then (targumref4_Value.j1 kj1 a0 (decide (a0 ≤ 102))) else (targumref4_Value.j1 kj1 a0 false)) = some r := by rw [if_neg (show ¬ (false = true) by decide)] at H; exact H
    clear H
    have H := H1
    clear H1
    have HC5 := Aside0.mk H
    clear H
    go_upto_region 3 with (fail)
    go_cut [13] (fun v13 wc => ∃ (kq : Nat) (x13_4 : Bool), v13 = .bool x13_4 ∧ Aside0 (targumref4_Value.j1 kq a0 x13_4 = some r) ∧ Aside0 (kq ≤ kj1) ∧ Drawn0 w wc)
    case first =>
     have H := HC5.out
     clear HC5
     by_cases c6 : a0 ≥ 97
     ·rw [if_pos c6] at H
      have c6b0 : decide (97 ≤ a0) = true := decide_eq_true c6
      clear c6
      (first | rw [c6b0] | (simp only [i64_w, i32_w]; rw [c6b0]) | skip)
      have H' := Aside0.mk H
      clear H
      go_wp2
      go_meet
      case rel => exact ⟨_, (decide (a0 ≤ 102)), (by first | rfl | (simp; done) | (simp [*]; done) | (simp [wrap64]; done)), H', ⟨by have := HJ1.out; first | omega | exact Nat.le_refl _⟩, by repeat (first | exact Drawn0.refl _ | apply Drawn0.step)⟩
     ·rw [if_neg c6] at H
      have c6b0 : decide (97 ≤ a0) = false := decide_eq_false c6
      clear c6
      (first | rw [c6b0] | (simp only [i64_w, i32_w]; rw [c6b0]) | skip)
      have H' := Aside0.mk H
      clear H
      go_wp2
      go_meet
      case rel => exact ⟨_, (false), (by first | rfl | (simp; done) | (simp [*]; done) | (simp [wrap64]; done)), H', ⟨by have := HJ1.out; first | omega | exact Nat.le_refl _⟩, by repeat (first | exact Drawn0.refl _ | apply Drawn0.step)⟩
    case rest =>
     clear HC5
     try clear c1; try clear p2; try clear c3; try clear c3b0; try clear c4; try clear c6; try clear c6b0; try clear p2
     obtain ⟨kq, x13_4, rfl, HA, HJ4, ⟨mc4, rfl⟩⟩ := hcut
     cases kq with
     | zero => exact absurd HA.out (by simp [targumref4_Value.j1])
     | succ kj4 =>
      have H := HA.out
      clear HA
      simp only [targumref4_Value.j1] at H
      by_cases c7 : x13_4 = true
      ·subst c7
       have H1 : (some (((a0 - 97) % 256) + 10)) = some r := by rw [if_pos rfl] at H; exact H
       clear H
       have H := H1
       clear H1
       obtain rfl := Option.some.inj H
       go_wp2
       go_ret
       exact ⟨by first | rfl | (simp; done) | (simp [*]; done) | (simp [wrap64]; done) | (simp; (generalize ByteArray.toList _ = z_); cases z_ <;> first | rfl | simp), by repeat (first | exact Drawn0.refl _ | apply Drawn0.step)⟩
      ·replace c7 := Bool.eq_false_iff.mpr c7
       subst c7
       have H1 : (if a0 ≥ 65 then (if a0 ≤ 70 then (some (((a0 - 65) % 256) + 10)) else (some 99)) else (some 99)) = some r := by rw [if_neg (show ¬ (false = true) by decide)] at H; exact H
       clear H
       have H := H1
       clear H1
       by_cases c8 : a0 ≥ 65
       ·rw [if_pos c8] at H
        have c8b0 : decide (65 ≤ a0) = true := decide_eq_true c8
        clear c8
        by_cases c9 : a0 ≤ 70
        ·rw [if_pos c9] at H
         have c9b0 : decide (a0 ≤ 70) = true := decide_eq_true c9
         clear c9
         obtain rfl := Option.some.inj H
         go_wp2
         go_ret
         exact ⟨by first | rfl | (simp; done) | (simp [*]; done) | (simp [wrap64]; done) | (simp; (generalize ByteArray.toList _ = z_); cases z_ <;> first | rfl | simp), by repeat (first | exact Drawn0.refl _ | apply Drawn0.step)⟩
        ·rw [if_neg c9] at H
         have c9b0 : decide (a0 ≤ 70) = false := decide_eq_false c9
         clear c9
         obtain rfl := Option.some.inj H
         go_wp2
         go_ret
         exact ⟨by first | rfl | (simp; done) | (simp [*]; done) | (simp [wrap64]; done) | (simp; (generalize ByteArray.toList _ = z_); cases z_ <;> first | rfl | simp), by repeat (first | exact Drawn0.refl _ | apply Drawn0.step)⟩
       ·rw [if_neg c8] at H
        have c8b0 : decide (65 ≤ a0) = false := decide_eq_false c8
        clear c8
        obtain rfl := Option.some.inj H
        go_wp2
        go_ret
        exact ⟨by first | rfl | (simp; done) | (simp [*]; done) | (simp [wrap64]; done) | (simp; (generalize ByteArray.toList _ = z_); cases z_ <;> first | rfl | simp), by repeat (first | exact Drawn0.refl _ | apply Drawn0.step)⟩

/-! ### targumref4_Base: function 25 -/
mutual
def targumref4_Base.j0 : Nat → ByteArray → Int → Bool → Option (ByteArray)
 | 0, _, _, _ => none
 | k + 1, x0, x1, x21 => if x21 = true then (some (⟨#[]⟩ : ByteArray)) else (targumref4_Base.l0 k x0 x1 (⟨#[48]⟩ : ByteArray) 0)
def targumref4_Base.l0 : Nat → ByteArray → Int → ByteArray → Int → Option (ByteArray)
 | 0, _, _, _, _ => none
 | k + 1, x0, x1, x5, x6 => if x6 < (x0.size : Int) then (if 0 ≤ x6 then ((targumref4_Value.f k (bt x0 x6)).bind fun t235 => (if t235 ≥ x1 then (some (⟨#[]⟩ : ByteArray)) else ((targumref4_mulAdd.f k x5 x1 t235).bind fun t236 => (targumref4_Base.l0 k x0 x1 t236 (wrap64 (x6 + 1)))))) else (none)) else (some x5)
end
def targumref4_Base.f (k : Nat) (a0 : ByteArray) (a1 : Int) : Option (ByteArray) := if a1 = 2 then (targumref4_Base.j0 k a0 a1 (a0.toList == ([] : List UInt8))) else (if a1 = 8 then (targumref4_Base.j0 k a0 a1 (a0.toList == ([] : List UInt8))) else (if a1 = 16 then (targumref4_Base.j0 k a0 a1 (a0.toList == ([] : List UInt8))) else (targumref4_Base.j0 k a0 a1 true)))
theorem targumref4_Base.mono_l : ∀ k, (∀ y0 y1 y2, LeO (targumref4_Base.j0 k y0 y1 y2) (targumref4_Base.j0 (k + 1) y0 y1 y2)) ∧ (∀ y0 y1 y2 y3, LeO (targumref4_Base.l0 k y0 y1 y2 y3) (targumref4_Base.l0 (k + 1) y0 y1 y2 y3))
 | 0 => ⟨fun _ _ _ r h => by simp [targumref4_Base.j0] at h, fun _ _ _ _ r h => by simp [targumref4_Base.l0] at h⟩
 | k + 1 => by
  obtain ⟨ih0, ih1⟩ := targumref4_Base.mono_l k
  refine ⟨?_, ?_⟩
  ·intro y0 y1 y2
   unfold targumref4_Base.j0
   repeat' first
   | (with_reducible exact ih0 _ _ _)
   | (with_reducible exact ih1 _ _ _ _)
   | (with_reducible exact targumref4_Value.mono _ _)
   | (with_reducible exact targumref4_mulAdd.mono _ _ _ _)
   | (with_reducible exact LeO.refl _)
   | (with_reducible exact LeO.none _)
   | (with_reducible refine LeO.ite ?_ ?_)
   | (with_reducible refine LeO.bind ?_ (fun _ => ?_))
   | exact ih0 _ _ _
   | exact ih1 _ _ _ _
   | exact targumref4_Value.mono _ _
   | exact targumref4_mulAdd.mono _ _ _ _
   | exact LeO.none _
   | refine LeO.ite ?_ ?_
   | refine LeO.bind ?_ (fun _ => ?_)
  ·intro y0 y1 y2 y3
   unfold targumref4_Base.l0
   repeat' first
   | (with_reducible exact ih0 _ _ _)
   | (with_reducible exact ih1 _ _ _ _)
   | (with_reducible exact targumref4_Value.mono _ _)
   | (with_reducible exact targumref4_mulAdd.mono _ _ _ _)
   | (with_reducible exact LeO.refl _)
   | (with_reducible exact LeO.none _)
   | (with_reducible refine LeO.ite ?_ ?_)
   | (with_reducible refine LeO.bind ?_ (fun _ => ?_))
   | exact ih0 _ _ _
   | exact ih1 _ _ _ _
   | exact targumref4_Value.mono _ _
   | exact targumref4_mulAdd.mono _ _ _ _
   | exact LeO.none _
   | refine LeO.ite ?_ ?_
   | refine LeO.bind ?_ (fun _ => ?_)
theorem targumref4_Base.mono : ∀ a0 a1 k, LeO (targumref4_Base.f k a0 a1) (targumref4_Base.f (k + 1) a0 a1) := by
 intro a0 a1 k
 obtain ⟨ih0, ih1⟩ := targumref4_Base.mono_l k
 unfold targumref4_Base.f
 repeat' first
   | (with_reducible exact ih0 _ _ _)
   | (with_reducible exact ih1 _ _ _ _)
   | (with_reducible exact targumref4_Value.mono _ _)
   | (with_reducible exact targumref4_mulAdd.mono _ _ _ _)
   | (with_reducible exact LeO.refl _)
   | (with_reducible exact LeO.none _)
   | (with_reducible refine LeO.ite ?_ ?_)
   | (with_reducible refine LeO.bind ?_ (fun _ => ?_))
   | exact ih0 _ _ _
   | exact ih1 _ _ _ _
   | exact targumref4_Value.mono _ _
   | exact targumref4_mulAdd.mono _ _ _ _
   | exact LeO.none _
   | refine LeO.ite ?_ ?_
   | refine LeO.bind ?_ (fun _ => ?_)
set_option maxHeartbeats 8000000 in
set_option maxRecDepth 100000 in
theorem targumref4_Base.calls (k : Nat) (a0 : ByteArray) (a1 : Int) (r : ByteArray) (w : World) (h : targumref4_Base.f k a0 a1 = some r) :
  Calls Tryd.prog 25 #[.string a0, .int .i64 a1] w fun e w' => e = .returned (.string r) ∧ Below w.heap.size w w' := by
 have HB := Aside0.mk (Below.refl w.heap.size w)
 have H : (if a1 = 2 then (targumref4_Base.j0 k a0 a1 (a0.toList == ([] : List UInt8))) else (if a1 = 8 then (targumref4_Base.j0 k a0 a1 (a0.toList == ([] : List UInt8))) else (if a1 = 16 then (targumref4_Base.j0 k a0 a1 (a0.toList == ([] : List UInt8))) else (targumref4_Base.j0 k a0 a1 true)))) = some r := h
 clear h
 have HC3 := Aside0.mk H
 clear H
 go_enter Tryd.func25, Tryd.ntmps25
 go_upto_region 1 with (fail)
 go_cut [21] (fun v21 wc => ∃ (kq : Nat) (x21_2 : Bool), v21 = .bool x21_2 ∧ Aside0 (targumref4_Base.j0 kq a0 a1 x21_2 = some r) ∧ Aside0 (kq ≤ k) ∧ Aside0 (Below w.heap.size w wc))
 case first =>
  have H := HC3.out
  clear HC3
  by_cases c4 : a1 = 2
  ·rw [if_pos c4] at H
   have c4b0 : (a1 == 2) = true := beq_iff_eq.mpr c4
   have c4b1 : (a1 != 2) = false := bne_eq_false_iff_eq.mpr c4
   clear c4
   (first | rw [c4b0] | (simp only [i64_w, i32_w]; rw [c4b0]) | skip)
   have H' := Aside0.mk H
   clear H
   go_wp2
   go_meet
   case rel => exact ⟨_, ((a0.toList == ([] : List UInt8))), (by first | rfl | (simp; done) | (simp [*]; done) | (simp [wrap64]; done)), H', ⟨by first | omega | exact Nat.le_refl _⟩, ⟨bl⟩⟩
  ·rw [if_neg c4] at H
   have c4b0 : (a1 == 2) = false := beq_eq_false_iff_ne.mpr c4
   have c4b1 : (a1 != 2) = true := bne_iff_ne.mpr c4
   (first | rw [c4b0] | (simp only [i64_w, i32_w]; rw [c4b0]) | skip)
   by_cases c5 : a1 = 8
   ·rw [if_pos c5] at H
    have c5b0 : (a1 == 8) = true := beq_iff_eq.mpr c5
    have c5b1 : (a1 != 8) = false := bne_eq_false_iff_eq.mpr c5
    clear c5
    have H' := Aside0.mk H
    clear H
    go_wp2
    go_meet
    case rel => exact ⟨_, ((a0.toList == ([] : List UInt8))), (by first | rfl | (simp; done) | (simp [*]; done) | (simp [wrap64]; done)), H', ⟨by first | omega | exact Nat.le_refl _⟩, ⟨bl⟩⟩
   ·rw [if_neg c5] at H
    have c5b0 : (a1 == 8) = false := beq_eq_false_iff_ne.mpr c5
    have c5b1 : (a1 != 8) = true := bne_iff_ne.mpr c5
    by_cases c6 : a1 = 16
    ·rw [if_pos c6] at H
     have c6b0 : (a1 == 16) = true := beq_iff_eq.mpr c6
     have c6b1 : (a1 != 16) = false := bne_eq_false_iff_eq.mpr c6
     clear c6
     have H' := Aside0.mk H
     clear H
     go_wp2
     go_meet
     case rel => exact ⟨_, ((a0.toList == ([] : List UInt8))), (by first | rfl | (simp; done) | (simp [*]; done) | (simp [wrap64]; done)), H', ⟨by first | omega | exact Nat.le_refl _⟩, ⟨bl⟩⟩
    ·rw [if_neg c6] at H
     have c6b0 : (a1 == 16) = false := beq_eq_false_iff_ne.mpr c6
     have c6b1 : (a1 != 16) = true := bne_iff_ne.mpr c6
     have H' := Aside0.mk H
     clear H
     go_wp2
     go_meet
     case rel => exact ⟨_, (true), (by first | rfl | (simp; done) | (simp [*]; done) | (simp [wrap64]; done)), H', ⟨by first | omega | exact Nat.le_refl _⟩, ⟨bl⟩⟩
 case rest =>
  clear HC3
  try clear c2; try clear p2; try clear c4; try clear c4b0; try clear c4b1; try clear c5; try clear c5b0; try clear c5b1; try clear c6; try clear c6b0; try clear c6b1
  obtain ⟨kq, x21_2, rfl, HA, HJ2, HB⟩ := hcut
  cases kq with
  | zero => exact absurd HA.out (by simp [targumref4_Base.j0])
  | succ kj2 =>
   have H := HA.out
   clear HA
   simp only [targumref4_Base.j0] at H
   by_cases c7 : x21_2 = true
   ·subst c7
    have H1 : (some (⟨#[]⟩ : ByteArray)) = some r := by rw [if_pos rfl] at H; exact H
    clear H
    have H := H1
    clear H1
    obtain rfl := Option.some.inj H
    go_wp2
    go_ret
    exact ⟨by first | rfl | (simp [errW_none, errW_some] <;> rfl) | (simp [*, errW_none, errW_some] <;> rfl) | ((generalize ByteArray.toList _ = z_); cases z_ <;> first | rfl | (simp; done)), bl⟩
   ·replace c7 := Bool.eq_false_iff.mpr c7
    subst c7
    have H1 : (targumref4_Base.l0 kj2 a0 a1 (⟨#[48]⟩ : ByteArray) 0) = some r := by rw [if_neg (show ¬ (false = true) by decide)] at H; exact H
    clear H
    have H := H1
    clear H1
    have H' := Aside0.mk H
    clear H
    go_wp2
    go_loopg [5, 6] kj2 (fun kq v5 v6 w' => ∃ (x5_2 : ByteArray) (x6_2 : Int), v5 = .string x5_2 ∧ v6 = .int .i64 x6_2 ∧ Aside0 (targumref4_Base.l0 kq a0 a1 x5_2 x6_2 = some r) ∧ Aside0 (kq ≤ kj2) ∧ Aside0 (Below w.heap.size w w'))
    case atStart => exact ⟨((⟨#[48]⟩ : ByteArray)), (0), (by first | rfl | (simp; done) | (simp [*]; done) | (simp [wrap64]; done)), (by first | rfl | (simp; done) | (simp [*]; done) | (simp [wrap64]; done)), H', ⟨Nat.le_refl _⟩, ⟨bl⟩⟩
    case round =>
     clear H'
     try clear c2; try clear p2; try clear c4; try clear c4b0; try clear c4b1; try clear c5; try clear c5b0; try clear c5b1; try clear c6; try clear c6b0; try clear c6b1; try clear c7; try clear p2
     obtain ⟨x5_2, x6_2, rfl, rfl, HA, HK2, HB⟩ := hrel
     cases gk with
     | zero => exact absurd HA.out (by simp [targumref4_Base.l0])
     | succ k2 =>
      have H := HA.out
      clear HA
      simp only [targumref4_Base.l0] at H
      by_cases c8 : x6_2 < (a0.size : Int)
      ·rw [if_pos c8] at H
       have c8b0 : decide (x6_2 < (a0.size : Int)) = true := decide_eq_true c8
       clear c8
       by_cases c9 : 0 ≤ x6_2
       ·rw [if_pos c9] at H
        have c9b0 : decide (0 ≤ x6_2) = true := decide_eq_true c9
        clear c9
        replace H := Option.bind_eq_some_iff.mp H
        obtain ⟨t235, A110, H⟩ := H
        replace H : (if t235 ≥ a1 then (some (⟨#[]⟩ : ByteArray)) else ((targumref4_mulAdd.f k2 x5_2 a1 t235).bind fun t236 => (targumref4_Base.l0 k2 a0 a1 t236 (wrap64 (x6_2 + 1))))) = some r := H
        have A11 := Aside0.mk A110
        clear A110
        by_cases c12 : t235 ≥ a1
        ·rw [if_pos c12] at H
         have c12b0 : decide (a1 ≤ t235) = true := decide_eq_true c12
         clear c12
         obtain rfl := Option.some.inj H
         have p10 : 0 ≤ (x6_2 : Int) := of_decide_eq_true (by first | (with_reducible assumption) | assumption)
         have q10 : x6_2 < (a0.size : Int) := of_decide_eq_true (by first | (with_reducible assumption) | assumption)
         have hx10 := bt_at a0 x6_2
         replace p10 := eq_true p10
         replace q10 := eq_true q10
         go_wp2_with (first | ((with_reducible refine gate_callee (f := 48) rfl ?_); refine goesL_ (some 31) rfl rfl Tryd.func48 (by kernel_rfl) rfl #[.int .u8 (bt a0 x6_2)] rfl (by (try simp only [List.map_toArray, List.map_cons, List.map_nil]); first | done | rfl | (simp only [List.length_drop, List.length_take]; rfl)) ?_; (with_reducible refine (targumref4_Value.calls k2 (bt a0 x6_2) t235 _ A11.out).mono ?_); rintro e w' ⟨rfl, ⟨nd, rfl⟩⟩; refine ⟨_, rfl, ?_⟩))
         go_ret
         exact ⟨by first | rfl | (simp [errW_none, errW_some] <;> rfl) | (simp [*, errW_none, errW_some] <;> rfl) | ((generalize ByteArray.toList _ = z_); cases z_ <;> first | rfl | (simp; done)), bl⟩
        ·rw [if_neg c12] at H
         have c12b0 : decide (a1 ≤ t235) = false := decide_eq_false c12
         clear c12
         replace H := Option.bind_eq_some_iff.mp H
         obtain ⟨t236, A130, H⟩ := H
         replace H : (targumref4_Base.l0 k2 a0 a1 t236 (wrap64 (x6_2 + 1))) = some r := H
         have A13 := Aside0.mk A130
         clear A130
         have H' := Aside0.mk H
         clear H
         have p10 : 0 ≤ (x6_2 : Int) := of_decide_eq_true (by first | (with_reducible assumption) | assumption)
         have q10 : x6_2 < (a0.size : Int) := of_decide_eq_true (by first | (with_reducible assumption) | assumption)
         have hx10 := bt_at a0 x6_2
         replace p10 := eq_true p10
         replace q10 := eq_true q10
         go_wp2_with (first | ((with_reducible refine gate_callee (f := 48) rfl ?_); refine goesL_ (some 31) rfl rfl Tryd.func48 (by kernel_rfl) rfl #[.int .u8 (bt a0 x6_2)] rfl (by (try simp only [List.map_toArray, List.map_cons, List.map_nil]); first | done | rfl | (simp only [List.length_drop, List.length_take]; rfl)) ?_; (with_reducible refine (targumref4_Value.calls k2 (bt a0 x6_2) t235 _ A11.out).mono ?_); rintro e w' ⟨rfl, ⟨nd, rfl⟩⟩; refine ⟨_, rfl, ?_⟩) | ((with_reducible refine gate_callee (f := 35) rfl ?_); refine goesL_ (some 38) rfl rfl Tryd.func35 (by kernel_rfl) rfl #[.string x5_2, .int .i64 a1, .int .i64 t235] rfl (by (try simp only [List.map_toArray, List.map_cons, List.map_nil]); first | done | rfl | (simp only [List.length_drop, List.length_take]; rfl)) ?_; (with_reducible refine (targumref4_mulAdd.calls k2 x5_2 a1 t235 t236 _ A13.out).mono ?_); rintro e w14 ⟨rfl, hb⟩; refine ⟨_, rfl, ?_⟩; have n0_ := Aside0.mk (below_step bl hb); clear HB; have HB := n0_; clear n0_; (try clear hb); (try clear hb2); (try clear hk); (try clear hi)))
         go_roundg k2
         case measure => have := HJ2.out; have := HK2.out; omega
         case rel => exact ⟨(t236), (wrap64 (x6_2 + 1)), (by first | rfl | (simp; done) | (simp [*]; done) | (simp [wrap64]; done)), (by first | rfl | (simp; done) | (simp [*]; done) | (simp [wrap64]; done)), H', ⟨by have := HJ2.out; have := HK2.out; omega⟩, ⟨bl⟩⟩
       ·rw [if_neg c9] at H
        exact absurd H (by simp)
      ·rw [if_neg c8] at H
       have c8b0 : decide (x6_2 < (a0.size : Int)) = false := decide_eq_false c8
       clear c8
       obtain rfl := Option.some.inj H
       go_wp2
       go_ret
       exact ⟨by first | rfl | (simp [errW_none, errW_some] <;> rfl) | (simp [*, errW_none, errW_some] <;> rfl) | ((generalize ByteArray.toList _ = z_); cases z_ <;> first | rfl | (simp; done)), bl⟩

/-! ### targumref6_sign: function 26 -/
def targumref6_sign.f (a0 : ByteArray) : Option (ByteArray × Bool) := if (a0.size : Int) > 0 then (if 0 < (a0.size : Int) then (if (bt a0 0) = 43 then (if 1 ≤ (a0.size : Int) then (some (a0.extract 1 a0.size, ((bt a0 0) == 45))) else (none)) else (if (bt a0 0) = 45 then (if 1 ≤ (a0.size : Int) then (some (a0.extract 1 a0.size, ((bt a0 0) == 45))) else (none)) else (some (a0, false)))) else (none)) else (some (a0, false))
set_option maxHeartbeats 8000000 in
set_option maxRecDepth 100000 in
theorem targumref6_sign.calls (a0 : ByteArray) (r1 : ByteArray) (r2 : Bool) (w : World) (h : targumref6_sign.f a0 = some (r1, r2)) :
  Calls Tryd.prog 26 #[.string a0] w fun e w' => e = .returned (.tuple #[.string r1, .bool r2]) ∧ Drawn0 w w' := by
 have H : (if (a0.size : Int) > 0 then (if 0 < (a0.size : Int) then (if (bt a0 0) = 43 then (if 1 ≤ (a0.size : Int) then (some (a0.extract 1 a0.size, ((bt a0 0) == 45))) else (none)) else (if (bt a0 0) = 45 then (if 1 ≤ (a0.size : Int) then (some (a0.extract 1 a0.size, ((bt a0 0) == 45))) else (none)) else (some (a0, false)))) else (none)) else (some (a0, false))) = some (r1, r2) := h
 clear h
 by_cases c2 : (a0.size : Int) > 0
 ·rw [if_pos c2] at H
  have c2b0 : decide (0 < (a0.size : Int)) = true := decide_eq_true c2
  have c2b1 : decide (0 < a0.size) = true := decide_eq_true (by omega)
  clear c2
  by_cases c3 : 0 < (a0.size : Int)
  ·rw [if_pos c3] at H
   have c3b0 : decide (0 < (a0.size : Int)) = true := decide_eq_true c3
   have c3b1 : decide (0 < a0.size) = true := decide_eq_true (by omega)
   clear c3
   by_cases c5 : (bt a0 0) = 43
   ·rw [if_pos c5] at H
    have c5b0 : ((bt a0 0) == 43) = true := beq_iff_eq.mpr c5
    have c5b1 : ((bt a0 0) != 43) = false := bne_eq_false_iff_eq.mpr c5
    clear c5
    by_cases c6 : 1 ≤ (a0.size : Int)
    ·rw [if_pos c6] at H
     have c6b0 := eq_true c6
     have c6b1 : decide (1 ≤ (a0.size : Int)) = true := decide_eq_true c6
     clear c6
     simp only [Option.some.injEq, Prod.mk.injEq] at H
     obtain ⟨rfl, rfl⟩ := H
     have p4 : 0 ≤ (0 : Int) := (by omega)
     have q4 : 0 < a0.size := (by have : (0 : Int) < (a0.size : Int) := of_decide_eq_true (by first | (with_reducible assumption) | assumption); omega)
     have hx4 : ∀ h : 0 < a0.size, ((a0[0]'h).toNat : Int) = bt a0 0 := bt_at a0 0
     clear p4
     have qi4 : (0 < (a0.size : Int)) = True := eq_true (of_decide_eq_true (by first | (with_reducible assumption) | assumption))
     replace q4 := eq_true q4
     have p7 : 0 ≤ (0 : Int) := (by omega)
     have q7 : 0 < a0.size := (by have : (0 : Int) < (a0.size : Int) := of_decide_eq_true (by first | (with_reducible assumption) | assumption); omega)
     have hx7 : ∀ h : 0 < a0.size, ((a0[0]'h).toNat : Int) = bt a0 0 := bt_at a0 0
     clear p7
     have qi7 : (0 < (a0.size : Int)) = True := eq_true (of_decide_eq_true (by first | (with_reducible assumption) | assumption))
     replace q7 := eq_true q7
     go_enter Tryd.func26, Tryd.ntmps26
     go_wp2
     repeat (go_quiet (fail); try go_wp2)
     go_ret2
     exact ⟨by first | rfl | (simp; done) | (simp [*]; done) | (simp [wrap64]; done) | (simp; (generalize ByteArray.toList _ = z_); cases z_ <;> first | rfl | simp), by repeat (first | exact Drawn0.refl _ | apply Drawn0.step)⟩
    ·rw [if_neg c6] at H
     exact absurd H (by simp)
   ·rw [if_neg c5] at H
    have c5b0 : ((bt a0 0) == 43) = false := beq_eq_false_iff_ne.mpr c5
    have c5b1 : ((bt a0 0) != 43) = true := bne_iff_ne.mpr c5
    by_cases c9 : (bt a0 0) = 45
    ·rw [if_pos c9] at H
     have c9b0 : ((bt a0 0) == 45) = true := beq_iff_eq.mpr c9
     have c9b1 : ((bt a0 0) != 45) = false := bne_eq_false_iff_eq.mpr c9
     clear c9
     by_cases c10 : 1 ≤ (a0.size : Int)
     ·rw [if_pos c10] at H
      have c10b0 := eq_true c10
      have c10b1 : decide (1 ≤ (a0.size : Int)) = true := decide_eq_true c10
      clear c10
      simp only [Option.some.injEq, Prod.mk.injEq] at H
      obtain ⟨rfl, rfl⟩ := H
      have p4 : 0 ≤ (0 : Int) := (by omega)
      have q4 : 0 < a0.size := (by have : (0 : Int) < (a0.size : Int) := of_decide_eq_true (by first | (with_reducible assumption) | assumption); omega)
      have hx4 : ∀ h : 0 < a0.size, ((a0[0]'h).toNat : Int) = bt a0 0 := bt_at a0 0
      clear p4
      have qi4 : (0 < (a0.size : Int)) = True := eq_true (of_decide_eq_true (by first | (with_reducible assumption) | assumption))
      replace q4 := eq_true q4
      have p8 : 0 ≤ (0 : Int) := (by omega)
      have q8 : 0 < a0.size := (by have : (0 : Int) < (a0.size : Int) := of_decide_eq_true (by first | (with_reducible assumption) | assumption); omega)
      have hx8 : ∀ h : 0 < a0.size, ((a0[0]'h).toNat : Int) = bt a0 0 := bt_at a0 0
      clear p8
      have qi8 : (0 < (a0.size : Int)) = True := eq_true (of_decide_eq_true (by first | (with_reducible assumption) | assumption))
      replace q8 := eq_true q8
      have p11 : 0 ≤ (0 : Int) := (by omega)
      have q11 : 0 < a0.size := (by have : (0 : Int) < (a0.size : Int) := of_decide_eq_true (by first | (with_reducible assumption) | assumption); omega)
      have hx11 : ∀ h : 0 < a0.size, ((a0[0]'h).toNat : Int) = bt a0 0 := bt_at a0 0
      clear p11
      have qi11 : (0 < (a0.size : Int)) = True := eq_true (of_decide_eq_true (by first | (with_reducible assumption) | assumption))
      replace q11 := eq_true q11
      go_enter Tryd.func26, Tryd.ntmps26
      go_wp2
      repeat (go_quiet (fail); try go_wp2)
      go_ret2
      exact ⟨by first | rfl | (simp; done) | (simp [*]; done) | (simp [wrap64]; done) | (simp; (generalize ByteArray.toList _ = z_); cases z_ <;> first | rfl | simp), by repeat (first | exact Drawn0.refl _ | apply Drawn0.step)⟩
     ·rw [if_neg c10] at H
      exact absurd H (by simp)
    ·rw [if_neg c9] at H
     have c9b0 : ((bt a0 0) == 45) = false := beq_eq_false_iff_ne.mpr c9
     have c9b1 : ((bt a0 0) != 45) = true := bne_iff_ne.mpr c9
     simp only [Option.some.injEq, Prod.mk.injEq] at H
     obtain ⟨rfl, rfl⟩ := H
     have p4 : 0 ≤ (0 : Int) := (by omega)
     have q4 : 0 < a0.size := (by have : (0 : Int) < (a0.size : Int) := of_decide_eq_true (by first | (with_reducible assumption) | assumption); omega)
     have hx4 : ∀ h : 0 < a0.size, ((a0[0]'h).toNat : Int) = bt a0 0 := bt_at a0 0
     clear p4
     have qi4 : (0 < (a0.size : Int)) = True := eq_true (of_decide_eq_true (by first | (with_reducible assumption) | assumption))
     replace q4 := eq_true q4
     have p8 : 0 ≤ (0 : Int) := (by omega)
     have q8 : 0 < a0.size := (by have : (0 : Int) < (a0.size : Int) := of_decide_eq_true (by first | (with_reducible assumption) | assumption); omega)
     have hx8 : ∀ h : 0 < a0.size, ((a0[0]'h).toNat : Int) = bt a0 0 := bt_at a0 0
     clear p8
     have qi8 : (0 < (a0.size : Int)) = True := eq_true (of_decide_eq_true (by first | (with_reducible assumption) | assumption))
     replace q8 := eq_true q8
     go_enter Tryd.func26, Tryd.ntmps26
     go_wp2
     repeat (go_quiet (fail); try go_wp2)
     go_ret2
     exact ⟨by first | rfl | (simp; done) | (simp [*]; done) | (simp [wrap64]; done) | (simp; (generalize ByteArray.toList _ = z_); cases z_ <;> first | rfl | simp), by repeat (first | exact Drawn0.refl _ | apply Drawn0.step)⟩
  ·rw [if_neg c3] at H
   exact absurd H (by simp)
 ·rw [if_neg c2] at H
  have c2b0 : decide (0 < (a0.size : Int)) = false := decide_eq_false c2
  have c2b1 : decide (0 < a0.size) = false := decide_eq_false (by omega)
  clear c2
  simp only [Option.some.injEq, Prod.mk.injEq] at H
  obtain ⟨rfl, rfl⟩ := H
  go_enter Tryd.func26, Tryd.ntmps26
  go_wp2
  repeat (go_quiet (fail); try go_wp2)
  go_ret2
  exact ⟨by first | rfl | (simp; done) | (simp [*]; done) | (simp [wrap64]; done) | (simp; (generalize ByteArray.toList _ = z_); cases z_ <;> first | rfl | simp), by repeat (first | exact Drawn0.refl _ | apply Drawn0.step)⟩

/-! ### targumref6_Int12: function 10 -/
def targumref6_Int12.j0 : Nat → ByteArray → Bool → Option (ByteArray × Bool)
 | 0, _, _ => none
 | k + 1, x0, x26 => if x26 = true then (if 1 < (x0.size : Int) then (if (bt x0 1) = 120 then (if 2 ≤ (x0.size : Int) then ((targumref4_Base.f k (x0.extract 2 x0.size) 16).bind fun t237 => (some (t237, (t237.toList != ([] : List UInt8))))) else (none)) else (if 2 ≤ (x0.size : Int) then ((targumref4_Base.f k (x0.extract 2 x0.size) 8).bind fun t238 => (some (t238, (t238.toList != ([] : List UInt8))))) else (none))) else (none)) else ((targumref6_sign.f x0).bind fun bt239 => ((targumref4_Norm.f k bt239.2 bt239.1).bind fun t241 => (some (t241, (t241.toList != ([] : List UInt8))))))
def targumref6_Int12.f (k : Nat) (a0 : ByteArray) : Option (ByteArray × Bool) := if (a0.size : Int) > 2 then (if 0 < (a0.size : Int) then (if (bt a0 0) = 48 then (if 1 < (a0.size : Int) then (if (bt a0 1) = 111 then (targumref6_Int12.j0 k a0 true) else (targumref6_Int12.j0 k a0 ((bt a0 1) == 120))) else (none)) else (targumref6_Int12.j0 k a0 false)) else (none)) else (targumref6_Int12.j0 k a0 false)
theorem targumref6_Int12.mono_l : ∀ k, (∀ y0 y1, LeO (targumref6_Int12.j0 k y0 y1) (targumref6_Int12.j0 (k + 1) y0 y1))
 | 0 => fun _ _ r h => by simp [targumref6_Int12.j0] at h
 | k + 1 => by
  have ih0 := targumref6_Int12.mono_l k
  ·intro y0 y1
   unfold targumref6_Int12.j0
   repeat' first
   | (with_reducible exact ih0 _ _)
   | (with_reducible exact targumref4_Base.mono _ _ _)
   | (with_reducible exact targumref4_Norm.mono _ _ _)
   | (with_reducible exact LeO.refl _)
   | (with_reducible exact LeO.none _)
   | (with_reducible refine LeO.ite ?_ ?_)
   | (with_reducible refine LeO.bind ?_ (fun _ => ?_))
   | exact ih0 _ _
   | exact targumref4_Base.mono _ _ _
   | exact targumref4_Norm.mono _ _ _
   | exact LeO.none _
   | refine LeO.ite ?_ ?_
   | refine LeO.bind ?_ (fun _ => ?_)
theorem targumref6_Int12.mono : ∀ a0 k, LeO (targumref6_Int12.f k a0) (targumref6_Int12.f (k + 1) a0) := by
 intro a0 k
 have ih0 := targumref6_Int12.mono_l k
 unfold targumref6_Int12.f
 repeat' first
   | (with_reducible exact ih0 _ _)
   | (with_reducible exact targumref4_Base.mono _ _ _)
   | (with_reducible exact targumref4_Norm.mono _ _ _)
   | (with_reducible exact LeO.refl _)
   | (with_reducible exact LeO.none _)
   | (with_reducible refine LeO.ite ?_ ?_)
   | (with_reducible refine LeO.bind ?_ (fun _ => ?_))
   | exact ih0 _ _
   | exact targumref4_Base.mono _ _ _
   | exact targumref4_Norm.mono _ _ _
   | exact LeO.none _
   | refine LeO.ite ?_ ?_
   | refine LeO.bind ?_ (fun _ => ?_)
set_option maxHeartbeats 8000000 in
set_option maxRecDepth 100000 in
theorem targumref6_Int12.calls (k : Nat) (a0 : ByteArray) (r1 : ByteArray) (r2 : Bool) (w : World) (h : targumref6_Int12.f k a0 = some (r1, r2)) :
  Calls Tryd.prog 10 #[.string a0] w fun e w' => e = .returned (.tuple #[.string r1, .bool r2]) ∧ Below w.heap.size w w' := by
 have HB := Aside0.mk (Below.refl w.heap.size w)
 have H : (if (a0.size : Int) > 2 then (if 0 < (a0.size : Int) then (if (bt a0 0) = 48 then (if 1 < (a0.size : Int) then (if (bt a0 1) = 111 then (targumref6_Int12.j0 k a0 true) else (targumref6_Int12.j0 k a0 ((bt a0 1) == 120))) else (none)) else (targumref6_Int12.j0 k a0 false)) else (none)) else (targumref6_Int12.j0 k a0 false)) = some (r1, r2) := h
 clear h
 have HC2 := Aside0.mk H
 clear H
 go_enter Tryd.func10, Tryd.ntmps10
 go_upto_region 1 with (fail)
 go_cut [26] (fun v26 wc => ∃ (kq : Nat) (x26_1 : Bool), v26 = .bool x26_1 ∧ Aside0 (targumref6_Int12.j0 kq a0 x26_1 = some (r1, r2)) ∧ Aside0 (kq ≤ k) ∧ Aside0 (Below w.heap.size w wc))
 case first =>
  have H := HC2.out
  clear HC2
  by_cases c3 : (a0.size : Int) > 2
  ·rw [if_pos c3] at H
   have c3b0 : decide (2 < (a0.size : Int)) = true := decide_eq_true c3
   have c3b1 : decide (2 < a0.size) = true := decide_eq_true (by omega)
   clear c3
   (first | rw [c3b0] | (simp only [i64_w, i32_w]; rw [c3b0]) | skip)
   by_cases c4 : 0 < (a0.size : Int)
   ·rw [if_pos c4] at H
    have c4b0 : decide (0 < (a0.size : Int)) = true := decide_eq_true c4
    have c4b1 : decide (0 < a0.size) = true := decide_eq_true (by omega)
    clear c4
    by_cases c6 : (bt a0 0) = 48
    ·rw [if_pos c6] at H
     have c6b0 : ((bt a0 0) == 48) = true := beq_iff_eq.mpr c6
     have c6b1 : ((bt a0 0) != 48) = false := bne_eq_false_iff_eq.mpr c6
     clear c6
     by_cases c7 : 1 < (a0.size : Int)
     ·rw [if_pos c7] at H
      have c7b0 : decide (1 < (a0.size : Int)) = true := decide_eq_true c7
      have c7b1 : decide (1 < a0.size) = true := decide_eq_true (by omega)
      clear c7
      by_cases c9 : (bt a0 1) = 111
      ·rw [if_pos c9] at H
       have c9b0 : ((bt a0 1) == 111) = true := beq_iff_eq.mpr c9
       have c9b1 : ((bt a0 1) != 111) = false := bne_eq_false_iff_eq.mpr c9
       clear c9
       have H' := Aside0.mk H
       clear H
       have p5 : 0 ≤ (0 : Int) := (by omega)
       have q5 : 0 < a0.size := (by have : (0 : Int) < (a0.size : Int) := of_decide_eq_true (by first | (with_reducible assumption) | assumption); omega)
       have hx5 : ∀ h : 0 < a0.size, ((a0[0]'h).toNat : Int) = bt a0 0 := bt_at a0 0
       clear p5
       have qi5 : (0 < (a0.size : Int)) = True := eq_true (of_decide_eq_true (by first | (with_reducible assumption) | assumption))
       replace q5 := eq_true q5
       have p8 : 0 ≤ (1 : Int) := (by omega)
       have q8 : 1 < a0.size := (by have : (1 : Int) < (a0.size : Int) := of_decide_eq_true (by first | (with_reducible assumption) | assumption); omega)
       have hx8 : ∀ h : 1 < a0.size, ((a0[1]'h).toNat : Int) = bt a0 1 := bt_at a0 1
       clear p8
       have qi8 : (1 < (a0.size : Int)) = True := eq_true (of_decide_eq_true (by first | (with_reducible assumption) | assumption))
       replace q8 := eq_true q8
       go_wp2
       go_meet
       case rel => exact ⟨_, (true), (by first | rfl | (simp; done) | (simp [*]; done) | (simp [wrap64]; done)), H', ⟨by first | omega | exact Nat.le_refl _⟩, ⟨bl⟩⟩
      ·rw [if_neg c9] at H
       have c9b0 : ((bt a0 1) == 111) = false := beq_eq_false_iff_ne.mpr c9
       have c9b1 : ((bt a0 1) != 111) = true := bne_iff_ne.mpr c9
       have H' := Aside0.mk H
       clear H
       have p5 : 0 ≤ (0 : Int) := (by omega)
       have q5 : 0 < a0.size := (by have : (0 : Int) < (a0.size : Int) := of_decide_eq_true (by first | (with_reducible assumption) | assumption); omega)
       have hx5 : ∀ h : 0 < a0.size, ((a0[0]'h).toNat : Int) = bt a0 0 := bt_at a0 0
       clear p5
       have qi5 : (0 < (a0.size : Int)) = True := eq_true (of_decide_eq_true (by first | (with_reducible assumption) | assumption))
       replace q5 := eq_true q5
       have p8 : 0 ≤ (1 : Int) := (by omega)
       have q8 : 1 < a0.size := (by have : (1 : Int) < (a0.size : Int) := of_decide_eq_true (by first | (with_reducible assumption) | assumption); omega)
       have hx8 : ∀ h : 1 < a0.size, ((a0[1]'h).toNat : Int) = bt a0 1 := bt_at a0 1
       clear p8
       have qi8 : (1 < (a0.size : Int)) = True := eq_true (of_decide_eq_true (by first | (with_reducible assumption) | assumption))
       replace q8 := eq_true q8
       have p10 : 0 ≤ (1 : Int) := (by omega)
       have q10 : 1 < a0.size := (by have : (1 : Int) < (a0.size : Int) := of_decide_eq_true (by first | (with_reducible assumption) | assumption); omega)
       have hx10 : ∀ h : 1 < a0.size, ((a0[1]'h).toNat : Int) = bt a0 1 := bt_at a0 1
       clear p10
       have qi10 : (1 < (a0.size : Int)) = True := eq_true (of_decide_eq_true (by first | (with_reducible assumption) | assumption))
       replace q10 := eq_true q10
       go_wp2
       go_meet
       case rel => exact ⟨_, (((bt a0 1) == 120)), (by first | rfl | (simp; done) | (simp [*]; done) | (simp [wrap64]; done)), H', ⟨by first | omega | exact Nat.le_refl _⟩, ⟨bl⟩⟩
     ·rw [if_neg c7] at H
      exact absurd H (by simp)
    ·rw [if_neg c6] at H
     have c6b0 : ((bt a0 0) == 48) = false := beq_eq_false_iff_ne.mpr c6
     have c6b1 : ((bt a0 0) != 48) = true := bne_iff_ne.mpr c6
     have H' := Aside0.mk H
     clear H
     have p5 : 0 ≤ (0 : Int) := (by omega)
     have q5 : 0 < a0.size := (by have : (0 : Int) < (a0.size : Int) := of_decide_eq_true (by first | (with_reducible assumption) | assumption); omega)
     have hx5 : ∀ h : 0 < a0.size, ((a0[0]'h).toNat : Int) = bt a0 0 := bt_at a0 0
     clear p5
     have qi5 : (0 < (a0.size : Int)) = True := eq_true (of_decide_eq_true (by first | (with_reducible assumption) | assumption))
     replace q5 := eq_true q5
     go_wp2
     go_meet
     case rel => exact ⟨_, (false), (by first | rfl | (simp; done) | (simp [*]; done) | (simp [wrap64]; done)), H', ⟨by first | omega | exact Nat.le_refl _⟩, ⟨bl⟩⟩
   ·rw [if_neg c4] at H
    exact absurd H (by simp)
  ·rw [if_neg c3] at H
   have c3b0 : decide (2 < (a0.size : Int)) = false := decide_eq_false c3
   have c3b1 : decide (2 < a0.size) = false := decide_eq_false (by omega)
   clear c3
   (first | rw [c3b0] | (simp only [i64_w, i32_w]; rw [c3b0]) | skip)
   have H' := Aside0.mk H
   clear H
   go_wp2
   go_meet
   case rel => exact ⟨_, (false), (by first | rfl | (simp; done) | (simp [*]; done) | (simp [wrap64]; done)), H', ⟨by first | omega | exact Nat.le_refl _⟩, ⟨bl⟩⟩
 case rest =>
  clear HC2
  try clear c1; try clear p1; try clear q1; try clear hx1; try clear qi1; try clear p2; try clear c3; try clear c3b0; try clear c3b1; try clear c4; try clear c4b0; try clear c4b1; try clear p5; try clear q5; try clear hx5; try clear qi5; try clear c6; try clear c6b0; try clear c6b1; try clear c7; try clear c7b0; try clear c7b1; try clear p8; try clear q8; try clear hx8; try clear qi8; try clear c9; try clear c9b0; try clear c9b1; try clear c10; try clear p10; try clear q10; try clear hx10; try clear qi10; try clear p10; try clear p5; try clear p8; try clear q10; try clear q5; try clear q8
  obtain ⟨kq, x26_1, rfl, HA, HJ1, HB⟩ := hcut
  cases kq with
  | zero => exact absurd HA.out (by simp [targumref6_Int12.j0])
  | succ kj1 =>
   have H := HA.out
   clear HA
   simp only [targumref6_Int12.j0] at H
   by_cases c11 : x26_1 = true
   ·subst c11
    have H1 : (if 1 < (a0.size : Int) then (if (bt a0 1) = 120 then (if 2 ≤ (a0.size : Int) then ((targumref4_Base.f kj1 (a0.extract 2 a0.size) 16).bind fun t237 => (some (t237, (t237.toList != ([] : List UInt8))))) else (none)) else (if 2 ≤ (a0.size : Int) then ((targumref4_Base.f kj1 (a0.extract 2 a0.size) 8).bind fun t238 => (some (t238, (t238.toList != ([] : List UInt8))))) else (none))) else (none)) = some (r1, r2) := by rw [if_pos rfl] at H; exact H
    clear H
    have H := H1
    clear H1
    by_cases c12 : 1 < (a0.size : Int)
    ·rw [if_pos c12] at H
     have c12b0 : decide (1 < (a0.size : Int)) = true := decide_eq_true c12
     have c12b1 : decide (1 < a0.size) = true := decide_eq_true (by omega)
     clear c12
     by_cases c14 : (bt a0 1) = 120
     ·rw [if_pos c14] at H
      have c14b0 : ((bt a0 1) == 120) = true := beq_iff_eq.mpr c14
      have c14b1 : ((bt a0 1) != 120) = false := bne_eq_false_iff_eq.mpr c14
      clear c14
      by_cases c15 : 2 ≤ (a0.size : Int)
      ·rw [if_pos c15] at H
       have c15b0 := eq_true c15
       have c15b1 : decide (2 ≤ (a0.size : Int)) = true := decide_eq_true c15
       clear c15
       replace H := Option.bind_eq_some_iff.mp H
       obtain ⟨t237, A160, H⟩ := H
       replace H : (some (t237, (t237.toList != ([] : List UInt8)))) = some (r1, r2) := H
       have A16 := Aside0.mk A160
       clear A160
       simp only [Option.some.injEq, Prod.mk.injEq] at H
       obtain ⟨rfl, rfl⟩ := H
       have p13 : 0 ≤ (1 : Int) := (by omega)
       have q13 : 1 < a0.size := (by have : (1 : Int) < (a0.size : Int) := of_decide_eq_true (by first | (with_reducible assumption) | assumption); omega)
       have hx13 : ∀ h : 1 < a0.size, ((a0[1]'h).toNat : Int) = bt a0 1 := bt_at a0 1
       clear p13
       have qi13 : (1 < (a0.size : Int)) = True := eq_true (of_decide_eq_true (by first | (with_reducible assumption) | assumption))
       replace q13 := eq_true q13
       go_wp2_with (first | ((with_reducible refine gate_callee (f := 25) rfl ?_); refine goesL_ (some 33) rfl rfl Tryd.func25 (by kernel_rfl) rfl #[.string (a0.extract 2 a0.size), .int .i64 16] rfl (by (try simp only [List.map_toArray, List.map_cons, List.map_nil]); first | done | rfl | (simp only [List.length_drop, List.length_take]; rfl)) ?_; (with_reducible refine (targumref4_Base.calls kj1 (a0.extract 2 a0.size) 16 t237 _ A16.out).mono ?_); rintro e w17 ⟨rfl, hb⟩; refine ⟨_, rfl, ?_⟩; have n0_ := Aside0.mk (below_step bl hb); clear HB; have HB := n0_; clear n0_; (try clear hb); (try clear hb2); (try clear hk); (try clear hi)))
       go_ret2
       exact ⟨by first | rfl | (simp [errW_none, errW_some] <;> rfl) | (simp [*, errW_none, errW_some] <;> rfl) | ((generalize ByteArray.toList _ = z_); cases z_ <;> first | rfl | (simp; done)), bl⟩
      ·rw [if_neg c15] at H
       exact absurd H (by simp)
     ·rw [if_neg c14] at H
      have c14b0 : ((bt a0 1) == 120) = false := beq_eq_false_iff_ne.mpr c14
      have c14b1 : ((bt a0 1) != 120) = true := bne_iff_ne.mpr c14
      by_cases c18 : 2 ≤ (a0.size : Int)
      ·rw [if_pos c18] at H
       have c18b0 := eq_true c18
       have c18b1 : decide (2 ≤ (a0.size : Int)) = true := decide_eq_true c18
       clear c18
       replace H := Option.bind_eq_some_iff.mp H
       obtain ⟨t238, A190, H⟩ := H
       replace H : (some (t238, (t238.toList != ([] : List UInt8)))) = some (r1, r2) := H
       have A19 := Aside0.mk A190
       clear A190
       simp only [Option.some.injEq, Prod.mk.injEq] at H
       obtain ⟨rfl, rfl⟩ := H
       have p13 : 0 ≤ (1 : Int) := (by omega)
       have q13 : 1 < a0.size := (by have : (1 : Int) < (a0.size : Int) := of_decide_eq_true (by first | (with_reducible assumption) | assumption); omega)
       have hx13 : ∀ h : 1 < a0.size, ((a0[1]'h).toNat : Int) = bt a0 1 := bt_at a0 1
       clear p13
       have qi13 : (1 < (a0.size : Int)) = True := eq_true (of_decide_eq_true (by first | (with_reducible assumption) | assumption))
       replace q13 := eq_true q13
       go_wp2_with (first | ((with_reducible refine gate_callee (f := 25) rfl ?_); refine goesL_ (some 33) rfl rfl Tryd.func25 (by kernel_rfl) rfl #[.string (a0.extract 2 a0.size), .int .i64 8] rfl (by (try simp only [List.map_toArray, List.map_cons, List.map_nil]); first | done | rfl | (simp only [List.length_drop, List.length_take]; rfl)) ?_; (with_reducible refine (targumref4_Base.calls kj1 (a0.extract 2 a0.size) 8 t238 _ A19.out).mono ?_); rintro e w20 ⟨rfl, hb⟩; refine ⟨_, rfl, ?_⟩; have n0_ := Aside0.mk (below_step bl hb); clear HB; have HB := n0_; clear n0_; (try clear hb); (try clear hb2); (try clear hk); (try clear hi)))
       go_ret2
       exact ⟨by first | rfl | (simp [errW_none, errW_some] <;> rfl) | (simp [*, errW_none, errW_some] <;> rfl) | ((generalize ByteArray.toList _ = z_); cases z_ <;> first | rfl | (simp; done)), bl⟩
      ·rw [if_neg c18] at H
       exact absurd H (by simp)
    ·rw [if_neg c12] at H
     exact absurd H (by simp)
   ·replace c11 := Bool.eq_false_iff.mpr c11
    subst c11
    have H1 : ((targumref6_sign.f a0).bind fun bt239 => ((targumref4_Norm.f kj1 bt239.2 bt239.1).bind fun t241 => (some (t241, (t241.toList != ([] : List UInt8)))))) = some (r1, r2) := by rw [if_neg (show ¬ (false = true) by decide)] at H; exact H
    clear H
    have H := H1
    clear H1
    replace H := Option.bind_eq_some_iff.mp H
    obtain ⟨⟨t239, t240⟩, A210, H⟩ := H
    replace H : ((targumref4_Norm.f kj1 t240 t239).bind fun t241 => (some (t241, (t241.toList != ([] : List UInt8))))) = some (r1, r2) := H
    have A21 := Aside0.mk A210
    clear A210
    replace H := Option.bind_eq_some_iff.mp H
    obtain ⟨t241, A220, H⟩ := H
    replace H : (some (t241, (t241.toList != ([] : List UInt8)))) = some (r1, r2) := H
    have A22 := Aside0.mk A220
    clear A220
    simp only [Option.some.injEq, Prod.mk.injEq] at H
    obtain ⟨rfl, rfl⟩ := H
    go_wp2_with (first | ((with_reducible refine gate_callee (f := 26) rfl ?_); refine goesL_ (some 39) rfl rfl Tryd.func26 (by kernel_rfl) rfl #[.string a0] rfl (by (try simp only [List.map_toArray, List.map_cons, List.map_nil]); first | done | rfl | (simp only [List.length_drop, List.length_take]; rfl)) ?_; (with_reducible refine (targumref6_sign.calls a0 t239 t240 _ A21.out).mono ?_); rintro e w' ⟨rfl, ⟨nd, rfl⟩⟩; refine ⟨_, rfl, ?_⟩) | ((with_reducible refine gate_callee (f := 18) rfl ?_); refine goesL_ (some 44) rfl rfl Tryd.func18 (by kernel_rfl) rfl #[.bool t240, .string t239] rfl (by (try simp only [List.map_toArray, List.map_cons, List.map_nil]); first | done | rfl | (simp only [List.length_drop, List.length_take]; rfl)) ?_; (with_reducible refine (targumref4_Norm.calls kj1 t240 t239 t241 _ A22.out).mono ?_); rintro e w' ⟨rfl, ⟨nd, rfl⟩⟩; refine ⟨_, rfl, ?_⟩))
    go_ret2
    exact ⟨by first | rfl | (simp [errW_none, errW_some] <;> rfl) | (simp [*, errW_none, errW_some] <;> rfl) | ((generalize ByteArray.toList _ = z_); cases z_ <;> first | rfl | (simp; done)), bl⟩

end Go.Proofs.YtbjlcipamdgnjaaDoor.PN
