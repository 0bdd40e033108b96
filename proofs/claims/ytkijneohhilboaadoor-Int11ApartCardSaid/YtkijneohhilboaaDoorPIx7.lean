/- Written by this session's own program (xprint, made over the kit's print): Lean functions with the same answers as the Go functions, and the proofs of that. Not trusted: Lean checks it. -/
import Derived.Test.YtkijneohhilboaaDoorPIx0
import Derived.Test.YtkijneohhilboaaDoorPIx1
import Derived.Test.YtkijneohhilboaaDoorPIx4
import Derived.Test.YtkijneohhilboaaDoorPIx5
import Derived.Test.YtkijneohhilboaaDoorPIx6
import Derived.Test.YtkijneohhilboaaDoorXW
namespace Go.Proofs.YtkijneohhilboaaDoor.PI
open Go.Proofs.YtkijneohhilboaaDoor.XW Go.RowKit Go.Proofs.YtkijneohhilboaaDoorW.PrintWords Go.Proofs.YtkijneohhilboaaDoorW.PrintLast Go.Proofs.YtkijneohhilboaaDoorW.PrintMore
attribute [local go_sem] max2_int min2_int max_two min_two max_three min_three max_four min_four   -- for this text's walks alone
set_option linter.unusedVariables false
set_option linter.unusedSimpArgs false

/-! ### targumref6_Int11: function 15 -/
mutual
def targumref6_Int11.j0 : Nat → ByteArray → Bool → Bool → Option (ByteArray × Int)
 | 0, _, _, _ => none
 | k + 1, x4, x5, x27 => if x27 = true then (if 1 ≤ (x4.size : Int) then (if 1 < (x4.size : Int) then (if (bt x4 1) = 98 then (if 2 ≤ (x4.size : Int) then (targumref6_Int11.j1 k x4 x5 2 (x4.extract 2 x4.size) 1) else (none)) else (targumref6_Int11.j1 k x4 x5 8 (x4.extract 1 x4.size) 3)) else (none)) else (none)) else (if x4.toList = ([48] : List UInt8) then (some ((⟨#[48]⟩ : ByteArray), 4)) else (if x4.toList = ([] : List UInt8) then (some ((⟨#[]⟩ : ByteArray), 0)) else (if 0 < (x4.size : Int) then (if (bt x4 0) < 49 then (some ((⟨#[]⟩ : ByteArray), 0)) else (if (bt x4 0) > 57 then (some ((⟨#[]⟩ : ByteArray), 0)) else ((targumref6_bare.f k x4 10).bind fun bt195 => (if bt195.2 = true then ((targumref4_Norm.f k x5 bt195.1).bind fun t197 => (some (t197, 5))) else ((targumref6_sixty.f k x4).bind fun bt198 => (if bt198.2 = true then ((targumref4_Norm.f k x5 bt198.1).bind fun t200 => (some (t200, 6))) else (some ((⟨#[]⟩ : ByteArray), 0)))))))) else (none))))
def targumref6_Int11.j1 : Nat → ByteArray → Bool → Int → ByteArray → Int → Option (ByteArray × Int)
 | 0, _, _, _, _, _ => none
 | k + 1, x4, x5, x6, x7, x8 => if 1 < (x4.size : Int) then (if (bt x4 1) = 120 then (if 2 ≤ (x4.size : Int) then (targumref6_Int11.j2 k x5 16 (x4.extract 2 x4.size) 2) else (none)) else (targumref6_Int11.j2 k x5 x6 x7 x8)) else (none)
def targumref6_Int11.j2 : Nat → Bool → Int → ByteArray → Int → Option (ByteArray × Int)
 | 0, _, _, _, _ => none
 | k + 1, x5, x6, x7, x8 => (targumref6_bare.f k x7 x6).bind fun bt191 => (if bt191.2 = true then ((targumref4_Base.f k bt191.1 x6).bind fun t193 => ((targumref4_Norm.f k x5 t193).bind fun t194 => (some (t194, x8)))) else (some ((⟨#[]⟩ : ByteArray), 0)))
end
def targumref6_Int11.f (k : Nat) (a0 : ByteArray) : Option (ByteArray × Int) := (targumref6_sign.f a0).bind fun bt189 => (if (bt189.1.size : Int) ≥ 2 then (if 0 < (bt189.1.size : Int) then (targumref6_Int11.j0 k bt189.1 bt189.2 ((bt bt189.1 0) == 48)) else (none)) else (targumref6_Int11.j0 k bt189.1 bt189.2 false))
theorem targumref6_Int11.mono_l : ∀ k, (∀ y0 y1 y2, LeO (targumref6_Int11.j0 k y0 y1 y2) (targumref6_Int11.j0 (k + 1) y0 y1 y2)) ∧ (∀ y0 y1 y2 y3 y4, LeO (targumref6_Int11.j1 k y0 y1 y2 y3 y4) (targumref6_Int11.j1 (k + 1) y0 y1 y2 y3 y4)) ∧ (∀ y0 y1 y2 y3, LeO (targumref6_Int11.j2 k y0 y1 y2 y3) (targumref6_Int11.j2 (k + 1) y0 y1 y2 y3))
 | 0 => ⟨fun _ _ _ r h => by simp [targumref6_Int11.j0] at h, fun _ _ _ _ _ r h => by simp [targumref6_Int11.j1] at h, fun _ _ _ _ r h => by simp [targumref6_Int11.j2] at h⟩
 | k + 1 => by
  obtain ⟨ih0, ih1, ih2⟩ := targumref6_Int11.mono_l k
  refine ⟨?_, ?_, ?_⟩
  ·intro y0 y1 y2
   unfold targumref6_Int11.j0
   repeat' first
   | (with_reducible exact ih0 _ _ _)
   | (with_reducible exact ih1 _ _ _ _ _)
   | (with_reducible exact ih2 _ _ _ _)
   | (with_reducible exact targumref4_Base.mono _ _ _)
   | (with_reducible exact targumref4_Norm.mono _ _ _)
   | (with_reducible exact targumref6_bare.mono _ _ _)
   | (with_reducible exact targumref6_sixty.mono _ _)
   | (with_reducible exact LeO.refl _)
   | (with_reducible exact LeO.none _)
   | (with_reducible refine LeO.ite ?_ ?_)
   | (with_reducible refine LeO.bind ?_ (fun _ => ?_))
   | exact ih0 _ _ _
   | exact ih1 _ _ _ _ _
   | exact ih2 _ _ _ _
   | exact targumref4_Base.mono _ _ _
   | exact targumref4_Norm.mono _ _ _
   | exact targumref6_bare.mono _ _ _
   | exact targumref6_sixty.mono _ _
   | exact LeO.none _
   | refine LeO.ite ?_ ?_
   | refine LeO.bind ?_ (fun _ => ?_)
  ·intro y0 y1 y2 y3 y4
   unfold targumref6_Int11.j1
   repeat' first
   | (with_reducible exact ih0 _ _ _)
   | (with_reducible exact ih1 _ _ _ _ _)
   | (with_reducible exact ih2 _ _ _ _)
   | (with_reducible exact targumref4_Base.mono _ _ _)
   | (with_reducible exact targumref4_Norm.mono _ _ _)
   | (with_reducible exact targumref6_bare.mono _ _ _)
   | (with_reducible exact targumref6_sixty.mono _ _)
   | (with_reducible exact LeO.refl _)
   | (with_reducible exact LeO.none _)
   | (with_reducible refine LeO.ite ?_ ?_)
   | (with_reducible refine LeO.bind ?_ (fun _ => ?_))
   | exact ih0 _ _ _
   | exact ih1 _ _ _ _ _
   | exact ih2 _ _ _ _
   | exact targumref4_Base.mono _ _ _
   | exact targumref4_Norm.mono _ _ _
   | exact targumref6_bare.mono _ _ _
   | exact targumref6_sixty.mono _ _
   | exact LeO.none _
   | refine LeO.ite ?_ ?_
   | refine LeO.bind ?_ (fun _ => ?_)
  ·intro y0 y1 y2 y3
   unfold targumref6_Int11.j2
   repeat' first
   | (with_reducible exact ih0 _ _ _)
   | (with_reducible exact ih1 _ _ _ _ _)
   | (with_reducible exact ih2 _ _ _ _)
   | (with_reducible exact targumref4_Base.mono _ _ _)
   | (with_reducible exact targumref4_Norm.mono _ _ _)
   | (with_reducible exact targumref6_bare.mono _ _ _)
   | (with_reducible exact targumref6_sixty.mono _ _)
   | (with_reducible exact LeO.refl _)
   | (with_reducible exact LeO.none _)
   | (with_reducible refine LeO.ite ?_ ?_)
   | (with_reducible refine LeO.bind ?_ (fun _ => ?_))
   | exact ih0 _ _ _
   | exact ih1 _ _ _ _ _
   | exact ih2 _ _ _ _
   | exact targumref4_Base.mono _ _ _
   | exact targumref4_Norm.mono _ _ _
   | exact targumref6_bare.mono _ _ _
   | exact targumref6_sixty.mono _ _
   | exact LeO.none _
   | refine LeO.ite ?_ ?_
   | refine LeO.bind ?_ (fun _ => ?_)
theorem targumref6_Int11.mono : ∀ a0 k, LeO (targumref6_Int11.f k a0) (targumref6_Int11.f (k + 1) a0) := by
 intro a0 k
 obtain ⟨ih0, ih1, ih2⟩ := targumref6_Int11.mono_l k
 unfold targumref6_Int11.f
 repeat' first
   | (with_reducible exact ih0 _ _ _)
   | (with_reducible exact ih1 _ _ _ _ _)
   | (with_reducible exact ih2 _ _ _ _)
   | (with_reducible exact targumref4_Base.mono _ _ _)
   | (with_reducible exact targumref4_Norm.mono _ _ _)
   | (with_reducible exact targumref6_bare.mono _ _ _)
   | (with_reducible exact targumref6_sixty.mono _ _)
   | (with_reducible exact LeO.refl _)
   | (with_reducible exact LeO.none _)
   | (with_reducible refine LeO.ite ?_ ?_)
   | (with_reducible refine LeO.bind ?_ (fun _ => ?_))
   | exact ih0 _ _ _
   | exact ih1 _ _ _ _ _
   | exact ih2 _ _ _ _
   | exact targumref4_Base.mono _ _ _
   | exact targumref4_Norm.mono _ _ _
   | exact targumref6_bare.mono _ _ _
   | exact targumref6_sixty.mono _ _
   | exact LeO.none _
   | refine LeO.ite ?_ ?_
   | refine LeO.bind ?_ (fun _ => ?_)
set_option maxHeartbeats 8000000 in
set_option maxRecDepth 100000 in
theorem targumref6_Int11.calls (k : Nat) (a0 : ByteArray) (r1 : ByteArray) (r2 : Int) (w : World) (h : targumref6_Int11.f k a0 = some (r1, r2)) :
  Calls Tryd.prog 15 #[.string a0] w fun e w' => e = .returned (.tuple #[.string r1, .int .i64 r2]) ∧ Below w.heap.size w w' := by
 have HB := Aside0.mk (Below.refl w.heap.size w)
 have H : ((targumref6_sign.f a0).bind fun bt189 => (if (bt189.1.size : Int) ≥ 2 then (if 0 < (bt189.1.size : Int) then (targumref6_Int11.j0 k bt189.1 bt189.2 ((bt bt189.1 0) == 48)) else (none)) else (targumref6_Int11.j0 k bt189.1 bt189.2 false))) = some (r1, r2) := h
 clear h
 replace H := Option.bind_eq_some_iff.mp H
 obtain ⟨⟨t189, t190⟩, A20, H⟩ := H
 replace H : (if (t189.size : Int) ≥ 2 then (if 0 < (t189.size : Int) then (targumref6_Int11.j0 k t189 t190 ((bt t189 0) == 48)) else (none)) else (targumref6_Int11.j0 k t189 t190 false)) = some (r1, r2) := H
 have A2 := Aside0.mk A20
 clear A20
 have HC3 := Aside0.mk H
 clear H
 go_enter Tryd.func15, Tryd.ntmps15
 go_upto_region 2 with (first | (go_at_call 32; (try (rename_i hK_; simp only [List.append] at hK_)); (with_reducible refine (targumref6_sign.calls a0 t189 t190 _ A2.out).mono ?_); rintro e w' ⟨rfl, ⟨nd, rfl⟩⟩; (try first | exact ⟨rfl, _, World.drewN_drewN _ _ _⟩ | exact ⟨rfl, _, Eq.trans (World.drewN_drewN _ _ _) (congrArg (World.drewN _) (Nat.add_assoc _ _ _))⟩)))
 repeat (go_quiet (first | (go_at_call 32; (try (rename_i hK_; simp only [List.append] at hK_)); (with_reducible refine (targumref6_sign.calls a0 t189 t190 _ A2.out).mono ?_); rintro e w' ⟨rfl, ⟨nd, rfl⟩⟩; (try first | exact ⟨rfl, _, World.drewN_drewN _ _ _⟩ | exact ⟨rfl, _, Eq.trans (World.drewN_drewN _ _ _) (congrArg (World.drewN _) (Nat.add_assoc _ _ _))⟩))); go_upto_region 2 with (first | (go_at_call 32; (try (rename_i hK_; simp only [List.append] at hK_)); (with_reducible refine (targumref6_sign.calls a0 t189 t190 _ A2.out).mono ?_); rintro e w' ⟨rfl, ⟨nd, rfl⟩⟩; (try first | exact ⟨rfl, _, World.drewN_drewN _ _ _⟩ | exact ⟨rfl, _, Eq.trans (World.drewN_drewN _ _ _) (congrArg (World.drewN _) (Nat.add_assoc _ _ _))⟩))))
 (try simp only [Act.put, List.setIfInBounds_toArray, List.set_cons_zero, List.set_cons_succ])
 go_cut [27] (fun v27 wc => ∃ (kq : Nat) (x27_2 : Bool), v27 = .bool x27_2 ∧ Aside0 (targumref6_Int11.j0 kq t189 t190 x27_2 = some (r1, r2)) ∧ Aside0 (kq ≤ k) ∧ Aside0 (Below w.heap.size w wc))
 case first =>
  have H := HC3.out
  clear HC3
  by_cases c4 : (t189.size : Int) ≥ 2
  ·rw [if_pos c4] at H
   have c4b0 : decide (2 ≤ (t189.size : Int)) = true := decide_eq_true c4
   have c4b1 : decide (2 ≤ t189.size) = true := decide_eq_true (by omega)
   clear c4
   (first | rw [c4b0] | (simp only [i64_w, i32_w]; rw [c4b0]) | skip)
   by_cases c5 : 0 < (t189.size : Int)
   ·rw [if_pos c5] at H
    have c5b0 : decide (0 < (t189.size : Int)) = true := decide_eq_true c5
    have c5b1 : decide (0 < t189.size) = true := decide_eq_true (by omega)
    clear c5
    have H' := Aside0.mk H
    clear H
    have p6 : 0 ≤ (0 : Int) := (by omega)
    have q6 : 0 < t189.size := (by have : (0 : Int) < (t189.size : Int) := of_decide_eq_true (by first | (with_reducible assumption) | assumption); omega)
    have hx6 : ∀ h : 0 < t189.size, ((t189[0]'h).toNat : Int) = bt t189 0 := bt_at t189 0
    clear p6
    have qi6 : (0 < (t189.size : Int)) = True := eq_true (of_decide_eq_true (by first | (with_reducible assumption) | assumption))
    replace q6 := eq_true q6
    go_wp2
    repeat (go_quiet (fail); try go_wp2)
    go_meet
    case rel => exact ⟨_, (((bt t189 0) == 48)), (by first | rfl | (simp; done) | (simp [*]; done) | (simp [wrap64]; done)), H', ⟨by first | omega | exact Nat.le_refl _⟩, ⟨bl⟩⟩
   ·rw [if_neg c5] at H
    exact absurd H (by simp)
  ·rw [if_neg c4] at H
   have c4b0 : decide (2 ≤ (t189.size : Int)) = false := decide_eq_false c4
   have c4b1 : decide (2 ≤ t189.size) = false := decide_eq_false (by omega)
   clear c4
   (first | rw [c4b0] | (simp only [i64_w, i32_w]; rw [c4b0]) | skip)
   have H' := Aside0.mk H
   clear H
   go_wp2
   repeat (go_quiet (fail); try go_wp2)
   go_meet
   case rel => exact ⟨_, (false), (by first | rfl | (simp; done) | (simp [*]; done) | (simp [wrap64]; done)), H', ⟨by first | omega | exact Nat.le_refl _⟩, ⟨bl⟩⟩
 case rest =>
  clear HC3
  try clear c1; try clear p2; try clear c4; try clear c4b0; try clear c4b1; try clear c5; try clear c5b0; try clear c5b1; try clear p6; try clear q6; try clear hx6; try clear qi6; try clear p6; try clear q6
  obtain ⟨kq, x27_2, rfl, HA, HJ2, HB⟩ := hcut
  cases kq with
  | zero => exact absurd HA.out (by simp [targumref6_Int11.j0])
  | succ kj2 =>
   have H := HA.out
   clear HA
   simp only [targumref6_Int11.j0] at H
   by_cases c7 : x27_2 = true
   ·subst c7
    have H1 : (if 1 ≤ (t189.size : Int) then (if 1 < (t189.size : Int) then (if (bt t189 1) = 98 then (if 2 ≤ (t189.size : Int) then (targumref6_Int11.j1 kj2 t189 t190 2 (t189.extract 2 t189.size) 1) else (none)) else (targumref6_Int11.j1 kj2 t189 t190 8 (t189.extract 1 t189.size) 3)) else (none)) else (none)) = some (r1, r2) := by rw [if_pos rfl] at H; exact H
    clear H
    have H := H1
    clear H1
    by_cases c8 : 1 ≤ (t189.size : Int)
    ·rw [if_pos c8] at H
     have c8b0 := eq_true c8
     have c8b1 : decide (1 ≤ (t189.size : Int)) = true := decide_eq_true c8
     clear c8
     by_cases c9 : 1 < (t189.size : Int)
     ·rw [if_pos c9] at H
      have c9b0 : decide (1 < (t189.size : Int)) = true := decide_eq_true c9
      have c9b1 : decide (1 < t189.size) = true := decide_eq_true (by omega)
      clear c9
      have HC11 := Aside0.mk H
      clear H
      have p10 : 0 ≤ (1 : Int) := (by omega)
      have q10 : 1 < t189.size := (by have : (1 : Int) < (t189.size : Int) := of_decide_eq_true (by first | (with_reducible assumption) | assumption); omega)
      have hx10 : ∀ h : 1 < t189.size, ((t189[1]'h).toNat : Int) = bt t189 1 := bt_at t189 1
      clear p10
      have qi10 : (1 < (t189.size : Int)) = True := eq_true (of_decide_eq_true (by first | (with_reducible assumption) | assumption))
      replace q10 := eq_true q10
      go_upto_if 32 with (fail)
      repeat (go_quiet (fail); go_upto_if 32 with (fail))
      go_cut [6, 7, 8] (fun v6 v7 v8 wc => ∃ (kq : Nat) (x6_10 : Int) (x7_10 : ByteArray) (x8_10 : Int), v6 = .int .i64 x6_10 ∧ v7 = .string x7_10 ∧ v8 = .int .i64 x8_10 ∧ Aside0 (targumref6_Int11.j1 kq t189 t190 x6_10 x7_10 x8_10 = some (r1, r2)) ∧ Aside0 (kq ≤ kj2) ∧ Aside0 (Below w.heap.size w wc))
      case first =>
       have H := HC11.out
       clear HC11
       by_cases c12 : (bt t189 1) = 98
       ·rw [if_pos c12] at H
        have c12b0 : ((bt t189 1) == 98) = true := beq_iff_eq.mpr c12
        have c12b1 : ((bt t189 1) != 98) = false := bne_eq_false_iff_eq.mpr c12
        clear c12
        (first | rw [c12b0] | (simp only [i64_w, i32_w]; rw [c12b0]) | skip)
        by_cases c13 : 2 ≤ (t189.size : Int)
        ·rw [if_pos c13] at H
         have c13b0 := eq_true c13
         have c13b1 : decide (2 ≤ (t189.size : Int)) = true := decide_eq_true c13
         clear c13
         have H' := Aside0.mk H
         clear H
         go_wp2
         repeat (go_quiet (fail); try go_wp2)
         go_meet
         case rel => exact ⟨_, (2), (t189.extract 2 t189.size), (1), (by first | rfl | (simp; done) | (simp [*]; done) | (simp [wrap64]; done)), (by first | rfl | (simp; done) | (simp [*]; done) | (simp [wrap64]; done)), (by first | rfl | (simp; done) | (simp [*]; done) | (simp [wrap64]; done)), H', ⟨by have := HJ2.out; first | omega | exact Nat.le_refl _⟩, ⟨bl⟩⟩
        ·rw [if_neg c13] at H
         exact absurd H (by simp)
       ·rw [if_neg c12] at H
        have c12b0 : ((bt t189 1) == 98) = false := beq_eq_false_iff_ne.mpr c12
        have c12b1 : ((bt t189 1) != 98) = true := bne_iff_ne.mpr c12
        (first | rw [c12b0] | (simp only [i64_w, i32_w]; rw [c12b0]) | skip)
        have H' := Aside0.mk H
        clear H
        go_wp2
        repeat (go_quiet (fail); try go_wp2)
        go_meet
        case rel => exact ⟨_, (8), (t189.extract 1 t189.size), (3), (by first | rfl | (simp; done) | (simp [*]; done) | (simp [wrap64]; done)), (by first | rfl | (simp; done) | (simp [*]; done) | (simp [wrap64]; done)), (by first | rfl | (simp; done) | (simp [*]; done) | (simp [wrap64]; done)), H', ⟨by have := HJ2.out; first | omega | exact Nat.le_refl _⟩, ⟨bl⟩⟩
      case rest =>
       clear HC11
       try clear c1; try clear p1; try clear q1; try clear hx1; try clear qi1; try clear p2; try clear c4; try clear c4b0; try clear c4b1; try clear c5; try clear c5b0; try clear c5b1; try clear p6; try clear q6; try clear hx6; try clear qi6; try clear c7; try clear c8; try clear c8b0; try clear c8b1; try clear c9; try clear c9b0; try clear c9b1; try clear p10; try clear q10; try clear hx10; try clear qi10; try clear c12; try clear c12b0; try clear c12b1; try clear c13; try clear c13b0; try clear c13b1; try clear p10; try clear p2; try clear p6; try clear q10; try clear q6
       obtain ⟨kq, x6_10, x7_10, x8_10, rfl, rfl, rfl, HA, HJ10, HB⟩ := hcut
       cases kq with
       | zero => exact absurd HA.out (by simp [targumref6_Int11.j1])
       | succ kj10 =>
        have H := HA.out
        clear HA
        simp only [targumref6_Int11.j1] at H
        by_cases c14 : 1 < (t189.size : Int)
        ·rw [if_pos c14] at H
         have c14b0 : decide (1 < (t189.size : Int)) = true := decide_eq_true c14
         have c14b1 : decide (1 < t189.size) = true := decide_eq_true (by omega)
         clear c14
         have HC16 := Aside0.mk H
         clear H
         have p15 : 0 ≤ (1 : Int) := (by omega)
         have q15 : 1 < t189.size := (by have : (1 : Int) < (t189.size : Int) := of_decide_eq_true (by first | (with_reducible assumption) | assumption); omega)
         have hx15 : ∀ h : 1 < t189.size, ((t189[1]'h).toNat : Int) = bt t189 1 := bt_at t189 1
         clear p15
         have qi15 : (1 < (t189.size : Int)) = True := eq_true (of_decide_eq_true (by first | (with_reducible assumption) | assumption))
         replace q15 := eq_true q15
         go_upto_if 37 with (fail)
         repeat (go_quiet (fail); go_upto_if 37 with (fail))
         go_cut [6, 7, 8] (fun v6 v7 v8 wc => ∃ (kq : Nat) (x6_15 : Int) (x7_15 : ByteArray) (x8_15 : Int), v6 = .int .i64 x6_15 ∧ v7 = .string x7_15 ∧ v8 = .int .i64 x8_15 ∧ Aside0 (targumref6_Int11.j2 kq t190 x6_15 x7_15 x8_15 = some (r1, r2)) ∧ Aside0 (kq ≤ kj10) ∧ Aside0 (Below w.heap.size w wc))
         case first =>
          have H := HC16.out
          clear HC16
          by_cases c17 : (bt t189 1) = 120
          ·rw [if_pos c17] at H
           have c17b0 : ((bt t189 1) == 120) = true := beq_iff_eq.mpr c17
           have c17b1 : ((bt t189 1) != 120) = false := bne_eq_false_iff_eq.mpr c17
           clear c17
           (first | rw [c17b0] | (simp only [i64_w, i32_w]; rw [c17b0]) | skip)
           by_cases c18 : 2 ≤ (t189.size : Int)
           ·rw [if_pos c18] at H
            have c18b0 := eq_true c18
            have c18b1 : decide (2 ≤ (t189.size : Int)) = true := decide_eq_true c18
            clear c18
            have H' := Aside0.mk H
            clear H
            go_wp2
            repeat (go_quiet (fail); try go_wp2)
            go_meet
            case rel => exact ⟨_, (16), (t189.extract 2 t189.size), (2), (by first | rfl | (simp; done) | (simp [*]; done) | (simp [wrap64]; done)), (by first | rfl | (simp; done) | (simp [*]; done) | (simp [wrap64]; done)), (by first | rfl | (simp; done) | (simp [*]; done) | (simp [wrap64]; done)), H', ⟨by have := HJ2.out; have := HJ10.out; first | omega | exact Nat.le_refl _⟩, ⟨bl⟩⟩
           ·rw [if_neg c18] at H
            exact absurd H (by simp)
          ·rw [if_neg c17] at H
           have c17b0 : ((bt t189 1) == 120) = false := beq_eq_false_iff_ne.mpr c17
           have c17b1 : ((bt t189 1) != 120) = true := bne_iff_ne.mpr c17
           (first | rw [c17b0] | (simp only [i64_w, i32_w]; rw [c17b0]) | skip)
           have H' := Aside0.mk H
           clear H
           go_wp2
           repeat (go_quiet (fail); try go_wp2)
           go_meet
           case rel => exact ⟨_, (x6_10), (x7_10), (x8_10), (by first | rfl | (simp; done) | (simp [*]; done) | (simp [wrap64]; done)), (by first | rfl | (simp; done) | (simp [*]; done) | (simp [wrap64]; done)), (by first | rfl | (simp; done) | (simp [*]; done) | (simp [wrap64]; done)), H', ⟨by have := HJ2.out; have := HJ10.out; first | omega | exact Nat.le_refl _⟩, ⟨bl⟩⟩
         case rest =>
          clear HC16
          try clear c1; try clear p1; try clear q1; try clear hx1; try clear qi1; try clear p2; try clear c4; try clear c4b0; try clear c4b1; try clear c5; try clear c5b0; try clear c5b1; try clear p6; try clear q6; try clear hx6; try clear qi6; try clear c7; try clear c8; try clear c8b0; try clear c8b1; try clear c9; try clear c9b0; try clear c9b1; try clear p10; try clear q10; try clear hx10; try clear qi10; try clear c12; try clear c12b0; try clear c12b1; try clear c13; try clear c13b0; try clear c13b1; try clear c14; try clear c14b0; try clear c14b1; try clear c15; try clear p15; try clear q15; try clear hx15; try clear qi15; try clear c17; try clear c17b0; try clear c17b1; try clear c18; try clear c18b0; try clear c18b1; try clear p1; try clear p10; try clear p15; try clear p2; try clear p6; try clear q1; try clear q10; try clear q15; try clear q6
          obtain ⟨kq, x6_15, x7_15, x8_15, rfl, rfl, rfl, HA, HJ15, HB⟩ := hcut
          cases kq with
          | zero => exact absurd HA.out (by simp [targumref6_Int11.j2])
          | succ kj15 =>
           have H := HA.out
           clear HA
           simp only [targumref6_Int11.j2] at H
           replace H := Option.bind_eq_some_iff.mp H
           obtain ⟨⟨t191, t192⟩, A190, H⟩ := H
           replace H : (if t192 = true then ((targumref4_Base.f kj15 t191 x6_15).bind fun t193 => ((targumref4_Norm.f kj15 t190 t193).bind fun t194 => (some (t194, x8_15)))) else (some ((⟨#[]⟩ : ByteArray), 0))) = some (r1, r2) := H
           have A19 := Aside0.mk A190
           clear A190
           by_cases c20 : t192 = true
           ·subst c20
            have H1 : ((targumref4_Base.f kj15 t191 x6_15).bind fun t193 => ((targumref4_Norm.f kj15 t190 t193).bind fun t194 => (some (t194, x8_15)))) = some (r1, r2) := by rw [if_pos rfl] at H; exact H
            clear H
            have H := H1
            clear H1
            replace H := Option.bind_eq_some_iff.mp H
            obtain ⟨t193, A210, H⟩ := H
            replace H : ((targumref4_Norm.f kj15 t190 t193).bind fun t194 => (some (t194, x8_15))) = some (r1, r2) := H
            have A21 := Aside0.mk A210
            clear A210
            replace H := Option.bind_eq_some_iff.mp H
            obtain ⟨t194, A220, H⟩ := H
            replace H : (some (t194, x8_15)) = some (r1, r2) := H
            have A22 := Aside0.mk A220
            clear A220
            simp only [Option.some.injEq, Prod.mk.injEq] at H
            obtain ⟨rfl, rfl⟩ := H
            go_wp2_with (first | (go_at_call 33; (try (rename_i hK_; simp only [List.append] at hK_)); (with_reducible refine (targumref6_bare.calls kj15 x7_15 x6_15 t191 true _ A19.out).mono ?_); rintro e w23 ⟨rfl, hb⟩; have n0_ := Aside0.mk (below_step bl hb); clear HB; have HB := n0_; clear n0_; (try clear hb); (try clear hb2); (try clear hk); (try clear hi)) | (go_at_call 34; (try (rename_i hK_; simp only [List.append] at hK_)); (with_reducible refine (targumref4_Base.calls kj15 t191 x6_15 t193 _ A21.out).mono ?_); rintro e w24 ⟨rfl, hb⟩; have n0_ := Aside0.mk (below_step bl hb); clear HB; have HB := n0_; clear n0_; (try clear hb); (try clear hb2); (try clear hk); (try clear hi)) | (go_at_call 11; (try (rename_i hK_; simp only [List.append] at hK_)); (with_reducible refine (targumref4_Norm.calls kj15 t190 t193 t194 _ A22.out).mono ?_); rintro e w' ⟨rfl, ⟨nd, rfl⟩⟩; (try first | exact ⟨rfl, _, World.drewN_drewN _ _ _⟩ | exact ⟨rfl, _, Eq.trans (World.drewN_drewN _ _ _) (congrArg (World.drewN _) (Nat.add_assoc _ _ _))⟩)))
            repeat (go_quiet (first | (go_at_call 33; (try (rename_i hK_; simp only [List.append] at hK_)); (with_reducible refine (targumref6_bare.calls kj15 x7_15 x6_15 t191 true _ A19.out).mono ?_); rintro e w23 ⟨rfl, hb⟩; have n0_ := Aside0.mk (below_step bl hb); clear HB; have HB := n0_; clear n0_; (try clear hb); (try clear hb2); (try clear hk); (try clear hi)) | (go_at_call 34; (try (rename_i hK_; simp only [List.append] at hK_)); (with_reducible refine (targumref4_Base.calls kj15 t191 x6_15 t193 _ A21.out).mono ?_); rintro e w24 ⟨rfl, hb⟩; have n0_ := Aside0.mk (below_step bl hb); clear HB; have HB := n0_; clear n0_; (try clear hb); (try clear hb2); (try clear hk); (try clear hi)) | (go_at_call 11; (try (rename_i hK_; simp only [List.append] at hK_)); (with_reducible refine (targumref4_Norm.calls kj15 t190 t193 t194 _ A22.out).mono ?_); rintro e w' ⟨rfl, ⟨nd, rfl⟩⟩; (try first | exact ⟨rfl, _, World.drewN_drewN _ _ _⟩ | exact ⟨rfl, _, Eq.trans (World.drewN_drewN _ _ _) (congrArg (World.drewN _) (Nat.add_assoc _ _ _))⟩))); try go_wp2_with (first | (go_at_call 33; (try (rename_i hK_; simp only [List.append] at hK_)); (with_reducible refine (targumref6_bare.calls kj15 x7_15 x6_15 t191 true _ A19.out).mono ?_); rintro e w23 ⟨rfl, hb⟩; have n0_ := Aside0.mk (below_step bl hb); clear HB; have HB := n0_; clear n0_; (try clear hb); (try clear hb2); (try clear hk); (try clear hi)) | (go_at_call 34; (try (rename_i hK_; simp only [List.append] at hK_)); (with_reducible refine (targumref4_Base.calls kj15 t191 x6_15 t193 _ A21.out).mono ?_); rintro e w24 ⟨rfl, hb⟩; have n0_ := Aside0.mk (below_step bl hb); clear HB; have HB := n0_; clear n0_; (try clear hb); (try clear hb2); (try clear hk); (try clear hi)) | (go_at_call 11; (try (rename_i hK_; simp only [List.append] at hK_)); (with_reducible refine (targumref4_Norm.calls kj15 t190 t193 t194 _ A22.out).mono ?_); rintro e w' ⟨rfl, ⟨nd, rfl⟩⟩; (try first | exact ⟨rfl, _, World.drewN_drewN _ _ _⟩ | exact ⟨rfl, _, Eq.trans (World.drewN_drewN _ _ _) (congrArg (World.drewN _) (Nat.add_assoc _ _ _))⟩))))
            go_ret2
            exact ⟨by first | rfl | (simp [errW_none, errW_some] <;> rfl) | (simp [*, errW_none, errW_some] <;> rfl) | ((generalize ByteArray.toList _ = z_); cases z_ <;> first | rfl | (simp; done)), bl⟩
           ·replace c20 := Bool.eq_false_iff.mpr c20
            subst c20
            have H1 : (some ((⟨#[]⟩ : ByteArray), 0)) = some (r1, r2) := by rw [if_neg (show ¬ (false = true) by decide)] at H; exact H
            clear H
            have H := H1
            clear H1
            simp only [Option.some.injEq, Prod.mk.injEq] at H
            obtain ⟨rfl, rfl⟩ := H
            go_wp2_with (first | (go_at_call 33; (try (rename_i hK_; simp only [List.append] at hK_)); (with_reducible refine (targumref6_bare.calls kj15 x7_15 x6_15 t191 false _ A19.out).mono ?_); rintro e w25 ⟨rfl, hb⟩; have n0_ := Aside0.mk (below_step bl hb); clear HB; have HB := n0_; clear n0_; (try clear hb); (try clear hb2); (try clear hk); (try clear hi)))
            repeat (go_quiet (first | (go_at_call 33; (try (rename_i hK_; simp only [List.append] at hK_)); (with_reducible refine (targumref6_bare.calls kj15 x7_15 x6_15 t191 false _ A19.out).mono ?_); rintro e w25 ⟨rfl, hb⟩; have n0_ := Aside0.mk (below_step bl hb); clear HB; have HB := n0_; clear n0_; (try clear hb); (try clear hb2); (try clear hk); (try clear hi))); try go_wp2_with (first | (go_at_call 33; (try (rename_i hK_; simp only [List.append] at hK_)); (with_reducible refine (targumref6_bare.calls kj15 x7_15 x6_15 t191 false _ A19.out).mono ?_); rintro e w25 ⟨rfl, hb⟩; have n0_ := Aside0.mk (below_step bl hb); clear HB; have HB := n0_; clear n0_; (try clear hb); (try clear hb2); (try clear hk); (try clear hi))))
            go_ret2
            exact ⟨by first | rfl | (simp [errW_none, errW_some] <;> rfl) | (simp [*, errW_none, errW_some] <;> rfl) | ((generalize ByteArray.toList _ = z_); cases z_ <;> first | rfl | (simp; done)), bl⟩
        ·rw [if_neg c14] at H
         exact absurd H (by simp)
     ·rw [if_neg c9] at H
      exact absurd H (by simp)
    ·rw [if_neg c8] at H
     exact absurd H (by simp)
   ·replace c7 := Bool.eq_false_iff.mpr c7
    subst c7
    have H1 : (if t189.toList = ([48] : List UInt8) then (some ((⟨#[48]⟩ : ByteArray), 4)) else (if t189.toList = ([] : List UInt8) then (some ((⟨#[]⟩ : ByteArray), 0)) else (if 0 < (t189.size : Int) then (if (bt t189 0) < 49 then (some ((⟨#[]⟩ : ByteArray), 0)) else (if (bt t189 0) > 57 then (some ((⟨#[]⟩ : ByteArray), 0)) else ((targumref6_bare.f kj2 t189 10).bind fun bt195 => (if bt195.2 = true then ((targumref4_Norm.f kj2 t190 bt195.1).bind fun t197 => (some (t197, 5))) else ((targumref6_sixty.f kj2 t189).bind fun bt198 => (if bt198.2 = true then ((targumref4_Norm.f kj2 t190 bt198.1).bind fun t200 => (some (t200, 6))) else (some ((⟨#[]⟩ : ByteArray), 0)))))))) else (none)))) = some (r1, r2) := by rw [if_neg (show ¬ (false = true) by decide)] at H; exact H
    clear H
    have H := H1
    clear H1
    by_cases c26 : t189.toList = ([48] : List UInt8)
    ·rw [if_pos c26] at H
     have c26b0 : (t189.toList == ([48] : List UInt8)) = true := beq_iff_eq.mpr c26
     have c26b1 : (t189.toList != ([48] : List UInt8)) = false := bne_eq_false_iff_eq.mpr c26
     clear c26
     simp only [Option.some.injEq, Prod.mk.injEq] at H
     obtain ⟨rfl, rfl⟩ := H
     go_wp2
     repeat (go_quiet (fail); try go_wp2)
     go_ret2
     exact ⟨by first | rfl | (simp [errW_none, errW_some] <;> rfl) | (simp [*, errW_none, errW_some] <;> rfl) | ((generalize ByteArray.toList _ = z_); cases z_ <;> first | rfl | (simp; done)), bl⟩
    ·rw [if_neg c26] at H
     have c26b0 : (t189.toList == ([48] : List UInt8)) = false := beq_eq_false_iff_ne.mpr c26
     have c26b1 : (t189.toList != ([48] : List UInt8)) = true := bne_iff_ne.mpr c26
     by_cases c27 : t189.toList = ([] : List UInt8)
     ·rw [if_pos c27] at H
      have c27b0 : (t189.toList == ([] : List UInt8)) = true := beq_iff_eq.mpr c27
      have c27b1 : (t189.toList != ([] : List UInt8)) = false := bne_eq_false_iff_eq.mpr c27
      clear c27
      simp only [Option.some.injEq, Prod.mk.injEq] at H
      obtain ⟨rfl, rfl⟩ := H
      go_wp2
      repeat (go_quiet (fail); try go_wp2)
      go_ret2
      exact ⟨by first | rfl | (simp [errW_none, errW_some] <;> rfl) | (simp [*, errW_none, errW_some] <;> rfl) | ((generalize ByteArray.toList _ = z_); cases z_ <;> first | rfl | (simp; done)), bl⟩
     ·rw [if_neg c27] at H
      have c27b0 : (t189.toList == ([] : List UInt8)) = false := beq_eq_false_iff_ne.mpr c27
      have c27b1 : (t189.toList != ([] : List UInt8)) = true := bne_iff_ne.mpr c27
      by_cases c28 : 0 < (t189.size : Int)
      ·rw [if_pos c28] at H
       have c28b0 : decide (0 < (t189.size : Int)) = true := decide_eq_true c28
       have c28b1 : decide (0 < t189.size) = true := decide_eq_true (by omega)
       clear c28
       by_cases c30 : (bt t189 0) < 49
       ·rw [if_pos c30] at H
        have c30b0 : decide ((bt t189 0) < 49) = true := decide_eq_true c30
        clear c30
        simp only [Option.some.injEq, Prod.mk.injEq] at H
        obtain ⟨rfl, rfl⟩ := H
        have p29 : 0 ≤ (0 : Int) := (by omega)
        have q29 : 0 < t189.size := (by have : (0 : Int) < (t189.size : Int) := of_decide_eq_true (by first | (with_reducible assumption) | assumption); omega)
        have hx29 : ∀ h : 0 < t189.size, ((t189[0]'h).toNat : Int) = bt t189 0 := bt_at t189 0
        clear p29
        have qi29 : (0 < (t189.size : Int)) = True := eq_true (of_decide_eq_true (by first | (with_reducible assumption) | assumption))
        replace q29 := eq_true q29
        go_wp2
        repeat (go_quiet (fail); try go_wp2)
        go_ret2
        exact ⟨by first | rfl | (simp [errW_none, errW_some] <;> rfl) | (simp [*, errW_none, errW_some] <;> rfl) | ((generalize ByteArray.toList _ = z_); cases z_ <;> first | rfl | (simp; done)), bl⟩
       ·rw [if_neg c30] at H
        have c30b0 : decide ((bt t189 0) < 49) = false := decide_eq_false c30
        clear c30
        by_cases c32 : (bt t189 0) > 57
        ·rw [if_pos c32] at H
         have c32b0 : decide (57 < (bt t189 0)) = true := decide_eq_true c32
         clear c32
         simp only [Option.some.injEq, Prod.mk.injEq] at H
         obtain ⟨rfl, rfl⟩ := H
         have p29 : 0 ≤ (0 : Int) := (by omega)
         have q29 : 0 < t189.size := (by have : (0 : Int) < (t189.size : Int) := of_decide_eq_true (by first | (with_reducible assumption) | assumption); omega)
         have hx29 : ∀ h : 0 < t189.size, ((t189[0]'h).toNat : Int) = bt t189 0 := bt_at t189 0
         clear p29
         have qi29 : (0 < (t189.size : Int)) = True := eq_true (of_decide_eq_true (by first | (with_reducible assumption) | assumption))
         replace q29 := eq_true q29
         have p31 : 0 ≤ (0 : Int) := (by omega)
         have q31 : 0 < t189.size := (by have : (0 : Int) < (t189.size : Int) := of_decide_eq_true (by first | (with_reducible assumption) | assumption); omega)
         have hx31 : ∀ h : 0 < t189.size, ((t189[0]'h).toNat : Int) = bt t189 0 := bt_at t189 0
         clear p31
         have qi31 : (0 < (t189.size : Int)) = True := eq_true (of_decide_eq_true (by first | (with_reducible assumption) | assumption))
         replace q31 := eq_true q31
         go_wp2
         repeat (go_quiet (fail); try go_wp2)
         go_ret2
         exact ⟨by first | rfl | (simp [errW_none, errW_some] <;> rfl) | (simp [*, errW_none, errW_some] <;> rfl) | ((generalize ByteArray.toList _ = z_); cases z_ <;> first | rfl | (simp; done)), bl⟩
        ·rw [if_neg c32] at H
         have c32b0 : decide (57 < (bt t189 0)) = false := decide_eq_false c32
         clear c32
         replace H := Option.bind_eq_some_iff.mp H
         obtain ⟨⟨t195, t196⟩, A330, H⟩ := H
         replace H : (if t196 = true then ((targumref4_Norm.f kj2 t190 t195).bind fun t197 => (some (t197, 5))) else ((targumref6_sixty.f kj2 t189).bind fun bt198 => (if bt198.2 = true then ((targumref4_Norm.f kj2 t190 bt198.1).bind fun t200 => (some (t200, 6))) else (some ((⟨#[]⟩ : ByteArray), 0))))) = some (r1, r2) := H
         have A33 := Aside0.mk A330
         clear A330
         by_cases c34 : t196 = true
         ·subst c34
          have H1 : ((targumref4_Norm.f kj2 t190 t195).bind fun t197 => (some (t197, 5))) = some (r1, r2) := by rw [if_pos rfl] at H; exact H
          clear H
          have H := H1
          clear H1
          replace H := Option.bind_eq_some_iff.mp H
          obtain ⟨t197, A350, H⟩ := H
          replace H : (some (t197, 5)) = some (r1, r2) := H
          have A35 := Aside0.mk A350
          clear A350
          simp only [Option.some.injEq, Prod.mk.injEq] at H
          obtain ⟨rfl, rfl⟩ := H
          have p29 : 0 ≤ (0 : Int) := (by omega)
          have q29 : 0 < t189.size := (by have : (0 : Int) < (t189.size : Int) := of_decide_eq_true (by first | (with_reducible assumption) | assumption); omega)
          have hx29 : ∀ h : 0 < t189.size, ((t189[0]'h).toNat : Int) = bt t189 0 := bt_at t189 0
          clear p29
          have qi29 : (0 < (t189.size : Int)) = True := eq_true (of_decide_eq_true (by first | (with_reducible assumption) | assumption))
          replace q29 := eq_true q29
          have p31 : 0 ≤ (0 : Int) := (by omega)
          have q31 : 0 < t189.size := (by have : (0 : Int) < (t189.size : Int) := of_decide_eq_true (by first | (with_reducible assumption) | assumption); omega)
          have hx31 : ∀ h : 0 < t189.size, ((t189[0]'h).toNat : Int) = bt t189 0 := bt_at t189 0
          clear p31
          have qi31 : (0 < (t189.size : Int)) = True := eq_true (of_decide_eq_true (by first | (with_reducible assumption) | assumption))
          replace q31 := eq_true q31
          go_wp2_with (first | (go_at_call 33; (try (rename_i hK_; simp only [List.append] at hK_)); (with_reducible refine (targumref6_bare.calls kj2 t189 10 t195 true _ A33.out).mono ?_); rintro e w36 ⟨rfl, hb⟩; have n0_ := Aside0.mk (below_step bl hb); clear HB; have HB := n0_; clear n0_; (try clear hb); (try clear hb2); (try clear hk); (try clear hi)) | (go_at_call 11; (try (rename_i hK_; simp only [List.append] at hK_)); (with_reducible refine (targumref4_Norm.calls kj2 t190 t195 t197 _ A35.out).mono ?_); rintro e w' ⟨rfl, ⟨nd, rfl⟩⟩; (try first | exact ⟨rfl, _, World.drewN_drewN _ _ _⟩ | exact ⟨rfl, _, Eq.trans (World.drewN_drewN _ _ _) (congrArg (World.drewN _) (Nat.add_assoc _ _ _))⟩)))
          repeat (go_quiet (first | (go_at_call 33; (try (rename_i hK_; simp only [List.append] at hK_)); (with_reducible refine (targumref6_bare.calls kj2 t189 10 t195 true _ A33.out).mono ?_); rintro e w36 ⟨rfl, hb⟩; have n0_ := Aside0.mk (below_step bl hb); clear HB; have HB := n0_; clear n0_; (try clear hb); (try clear hb2); (try clear hk); (try clear hi)) | (go_at_call 11; (try (rename_i hK_; simp only [List.append] at hK_)); (with_reducible refine (targumref4_Norm.calls kj2 t190 t195 t197 _ A35.out).mono ?_); rintro e w' ⟨rfl, ⟨nd, rfl⟩⟩; (try first | exact ⟨rfl, _, World.drewN_drewN _ _ _⟩ | exact ⟨rfl, _, Eq.trans (World.drewN_drewN _ _ _) (congrArg (World.drewN _) (Nat.add_assoc _ _ _))⟩))); try go_wp2_with (first | (go_at_call 33; (try (rename_i hK_; simp only [List.append] at hK_)); (with_reducible refine (targumref6_bare.calls kj2 t189 10 t195 true _ A33.out).mono ?_); rintro e w36 ⟨rfl, hb⟩; have n0_ := Aside0.mk (below_step bl hb); clear HB; have HB := n0_; clear n0_; (try clear hb); (try clear hb2); (try clear hk); (try clear hi)) | (go_at_call 11; (try (rename_i hK_; simp only [List.append] at hK_)); (with_reducible refine (targumref4_Norm.calls kj2 t190 t195 t197 _ A35.out).mono ?_); rintro e w' ⟨rfl, ⟨nd, rfl⟩⟩; (try first | exact ⟨rfl, _, World.drewN_drewN _ _ _⟩ | exact ⟨rfl, _, Eq.trans (World.drewN_drewN _ _ _) (congrArg (World.drewN _) (Nat.add_assoc _ _ _))⟩))))
          go_ret2
          exact ⟨by first | rfl | (simp [errW_none, errW_some] <;> rfl) | (simp [*, errW_none, errW_some] <;> rfl) | ((generalize ByteArray.toList _ = z_); cases z_ <;> first | rfl | (simp; done)), bl⟩
         ·replace c34 := Bool.eq_false_iff.mpr c34
          subst c34
          have H1 : ((targumref6_sixty.f kj2 t189).bind fun bt198 => (if bt198.2 = true then ((targumref4_Norm.f kj2 t190 bt198.1).bind fun t200 => (some (t200, 6))) else (some ((⟨#[]⟩ : ByteArray), 0)))) = some (r1, r2) := by rw [if_neg (show ¬ (false = true) by decide)] at H; exact H
          clear H
          have H := H1
          clear H1
          replace H := Option.bind_eq_some_iff.mp H
          obtain ⟨⟨t198, t199⟩, A370, H⟩ := H
          replace H : (if t199 = true then ((targumref4_Norm.f kj2 t190 t198).bind fun t200 => (some (t200, 6))) else (some ((⟨#[]⟩ : ByteArray), 0))) = some (r1, r2) := H
          have A37 := Aside0.mk A370
          clear A370
          by_cases c38 : t199 = true
          ·subst c38
           have H1 : ((targumref4_Norm.f kj2 t190 t198).bind fun t200 => (some (t200, 6))) = some (r1, r2) := by rw [if_pos rfl] at H; exact H
           clear H
           have H := H1
           clear H1
           replace H := Option.bind_eq_some_iff.mp H
           obtain ⟨t200, A390, H⟩ := H
           replace H : (some (t200, 6)) = some (r1, r2) := H
           have A39 := Aside0.mk A390
           clear A390
           simp only [Option.some.injEq, Prod.mk.injEq] at H
           obtain ⟨rfl, rfl⟩ := H
           have p29 : 0 ≤ (0 : Int) := (by omega)
           have q29 : 0 < t189.size := (by have : (0 : Int) < (t189.size : Int) := of_decide_eq_true (by first | (with_reducible assumption) | assumption); omega)
           have hx29 : ∀ h : 0 < t189.size, ((t189[0]'h).toNat : Int) = bt t189 0 := bt_at t189 0
           clear p29
           have qi29 : (0 < (t189.size : Int)) = True := eq_true (of_decide_eq_true (by first | (with_reducible assumption) | assumption))
           replace q29 := eq_true q29
           have p31 : 0 ≤ (0 : Int) := (by omega)
           have q31 : 0 < t189.size := (by have : (0 : Int) < (t189.size : Int) := of_decide_eq_true (by first | (with_reducible assumption) | assumption); omega)
           have hx31 : ∀ h : 0 < t189.size, ((t189[0]'h).toNat : Int) = bt t189 0 := bt_at t189 0
           clear p31
           have qi31 : (0 < (t189.size : Int)) = True := eq_true (of_decide_eq_true (by first | (with_reducible assumption) | assumption))
           replace q31 := eq_true q31
           go_wp2_with (first | (go_at_call 33; (try (rename_i hK_; simp only [List.append] at hK_)); (with_reducible refine (targumref6_bare.calls kj2 t189 10 t195 false _ A33.out).mono ?_); rintro e w40 ⟨rfl, hb⟩; have n0_ := Aside0.mk (below_step bl hb); clear HB; have HB := n0_; clear n0_; (try clear hb); (try clear hb2); (try clear hk); (try clear hi)) | (go_at_call 35; (try (rename_i hK_; simp only [List.append] at hK_)); (with_reducible refine (targumref6_sixty.calls kj2 t189 t198 true _ A37.out).mono ?_); rintro e w41 ⟨rfl, hb⟩; have n0_ := Aside0.mk (below_step bl hb); clear HB; have HB := n0_; clear n0_; (try clear hb); (try clear hb2); (try clear hk); (try clear hi)) | (go_at_call 11; (try (rename_i hK_; simp only [List.append] at hK_)); (with_reducible refine (targumref4_Norm.calls kj2 t190 t198 t200 _ A39.out).mono ?_); rintro e w' ⟨rfl, ⟨nd, rfl⟩⟩; (try first | exact ⟨rfl, _, World.drewN_drewN _ _ _⟩ | exact ⟨rfl, _, Eq.trans (World.drewN_drewN _ _ _) (congrArg (World.drewN _) (Nat.add_assoc _ _ _))⟩)))
           repeat (go_quiet (first | (go_at_call 33; (try (rename_i hK_; simp only [List.append] at hK_)); (with_reducible refine (targumref6_bare.calls kj2 t189 10 t195 false _ A33.out).mono ?_); rintro e w40 ⟨rfl, hb⟩; have n0_ := Aside0.mk (below_step bl hb); clear HB; have HB := n0_; clear n0_; (try clear hb); (try clear hb2); (try clear hk); (try clear hi)) | (go_at_call 35; (try (rename_i hK_; simp only [List.append] at hK_)); (with_reducible refine (targumref6_sixty.calls kj2 t189 t198 true _ A37.out).mono ?_); rintro e w41 ⟨rfl, hb⟩; have n0_ := Aside0.mk (below_step bl hb); clear HB; have HB := n0_; clear n0_; (try clear hb); (try clear hb2); (try clear hk); (try clear hi)) | (go_at_call 11; (try (rename_i hK_; simp only [List.append] at hK_)); (with_reducible refine (targumref4_Norm.calls kj2 t190 t198 t200 _ A39.out).mono ?_); rintro e w' ⟨rfl, ⟨nd, rfl⟩⟩; (try first | exact ⟨rfl, _, World.drewN_drewN _ _ _⟩ | exact ⟨rfl, _, Eq.trans (World.drewN_drewN _ _ _) (congrArg (World.drewN _) (Nat.add_assoc _ _ _))⟩))); try go_wp2_with (first | (go_at_call 33; (try (rename_i hK_; simp only [List.append] at hK_)); (with_reducible refine (targumref6_bare.calls kj2 t189 10 t195 false _ A33.out).mono ?_); rintro e w40 ⟨rfl, hb⟩; have n0_ := Aside0.mk (below_step bl hb); clear HB; have HB := n0_; clear n0_; (try clear hb); (try clear hb2); (try clear hk); (try clear hi)) | (go_at_call 35; (try (rename_i hK_; simp only [List.append] at hK_)); (with_reducible refine (targumref6_sixty.calls kj2 t189 t198 true _ A37.out).mono ?_); rintro e w41 ⟨rfl, hb⟩; have n0_ := Aside0.mk (below_step bl hb); clear HB; have HB := n0_; clear n0_; (try clear hb); (try clear hb2); (try clear hk); (try clear hi)) | (go_at_call 11; (try (rename_i hK_; simp only [List.append] at hK_)); (with_reducible refine (targumref4_Norm.calls kj2 t190 t198 t200 _ A39.out).mono ?_); rintro e w' ⟨rfl, ⟨nd, rfl⟩⟩; (try first | exact ⟨rfl, _, World.drewN_drewN _ _ _⟩ | exact ⟨rfl, _, Eq.trans (World.drewN_drewN _ _ _) (congrArg (World.drewN _) (Nat.add_assoc _ _ _))⟩))))
           go_ret2
           exact ⟨by first | rfl | (simp [errW_none, errW_some] <;> rfl) | (simp [*, errW_none, errW_some] <;> rfl) | ((generalize ByteArray.toList _ = z_); cases z_ <;> first | rfl | (simp; done)), bl⟩
          ·replace c38 := Bool.eq_false_iff.mpr c38
           subst c38
           have H1 : (some ((⟨#[]⟩ : ByteArray), 0)) = some (r1, r2) := by rw [if_neg (show ¬ (false = true) by decide)] at H; exact H
           clear H
           have H := H1
           clear H1
           simp only [Option.some.injEq, Prod.mk.injEq] at H
           obtain ⟨rfl, rfl⟩ := H
           have p29 : 0 ≤ (0 : Int) := (by omega)
           have q29 : 0 < t189.size := (by have : (0 : Int) < (t189.size : Int) := of_decide_eq_true (by first | (with_reducible assumption) | assumption); omega)
           have hx29 : ∀ h : 0 < t189.size, ((t189[0]'h).toNat : Int) = bt t189 0 := bt_at t189 0
           clear p29
           have qi29 : (0 < (t189.size : Int)) = True := eq_true (of_decide_eq_true (by first | (with_reducible assumption) | assumption))
           replace q29 := eq_true q29
           have p31 : 0 ≤ (0 : Int) := (by omega)
           have q31 : 0 < t189.size := (by have : (0 : Int) < (t189.size : Int) := of_decide_eq_true (by first | (with_reducible assumption) | assumption); omega)
           have hx31 : ∀ h : 0 < t189.size, ((t189[0]'h).toNat : Int) = bt t189 0 := bt_at t189 0
           clear p31
           have qi31 : (0 < (t189.size : Int)) = True := eq_true (of_decide_eq_true (by first | (with_reducible assumption) | assumption))
           replace q31 := eq_true q31
           go_wp2_with (first | (go_at_call 33; (try (rename_i hK_; simp only [List.append] at hK_)); (with_reducible refine (targumref6_bare.calls kj2 t189 10 t195 false _ A33.out).mono ?_); rintro e w42 ⟨rfl, hb⟩; have n0_ := Aside0.mk (below_step bl hb); clear HB; have HB := n0_; clear n0_; (try clear hb); (try clear hb2); (try clear hk); (try clear hi)) | (go_at_call 35; (try (rename_i hK_; simp only [List.append] at hK_)); (with_reducible refine (targumref6_sixty.calls kj2 t189 t198 false _ A37.out).mono ?_); rintro e w43 ⟨rfl, hb⟩; have n0_ := Aside0.mk (below_step bl hb); clear HB; have HB := n0_; clear n0_; (try clear hb); (try clear hb2); (try clear hk); (try clear hi)))
           repeat (go_quiet (first | (go_at_call 33; (try (rename_i hK_; simp only [List.append] at hK_)); (with_reducible refine (targumref6_bare.calls kj2 t189 10 t195 false _ A33.out).mono ?_); rintro e w42 ⟨rfl, hb⟩; have n0_ := Aside0.mk (below_step bl hb); clear HB; have HB := n0_; clear n0_; (try clear hb); (try clear hb2); (try clear hk); (try clear hi)) | (go_at_call 35; (try (rename_i hK_; simp only [List.append] at hK_)); (with_reducible refine (targumref6_sixty.calls kj2 t189 t198 false _ A37.out).mono ?_); rintro e w43 ⟨rfl, hb⟩; have n0_ := Aside0.mk (below_step bl hb); clear HB; have HB := n0_; clear n0_; (try clear hb); (try clear hb2); (try clear hk); (try clear hi))); try go_wp2_with (first | (go_at_call 33; (try (rename_i hK_; simp only [List.append] at hK_)); (with_reducible refine (targumref6_bare.calls kj2 t189 10 t195 false _ A33.out).mono ?_); rintro e w42 ⟨rfl, hb⟩; have n0_ := Aside0.mk (below_step bl hb); clear HB; have HB := n0_; clear n0_; (try clear hb); (try clear hb2); (try clear hk); (try clear hi)) | (go_at_call 35; (try (rename_i hK_; simp only [List.append] at hK_)); (with_reducible refine (targumref6_sixty.calls kj2 t189 t198 false _ A37.out).mono ?_); rintro e w43 ⟨rfl, hb⟩; have n0_ := Aside0.mk (below_step bl hb); clear HB; have HB := n0_; clear n0_; (try clear hb); (try clear hb2); (try clear hk); (try clear hi))))
           go_ret2
           exact ⟨by first | rfl | (simp [errW_none, errW_some] <;> rfl) | (simp [*, errW_none, errW_some] <;> rfl) | ((generalize ByteArray.toList _ = z_); cases z_ <;> first | rfl | (simp; done)), bl⟩
      ·rw [if_neg c28] at H
       exact absurd H (by simp)

/-! ### int11_Is: function 16 -/
def int11_Is.f (a0 : ByteArray) : Option (Bool) := (int11_Form.f a0).bind fun t201 => (some (t201 != 0))
set_option maxHeartbeats 8000000 in
set_option maxRecDepth 100000 in
theorem int11_Is.calls (a0 : ByteArray) (r : Bool) (w : World) (h : int11_Is.f a0 = some r) :
  Calls Tryd.prog 16 #[.string a0] w fun e w' => e = .returned (.bool r) ∧ Below w.heap.size w w' := by
 have HB := Aside0.mk (Below.refl w.heap.size w)
 have H : ((int11_Form.f a0).bind fun t201 => (some (t201 != 0))) = some r := h
 clear h
 replace H := Option.bind_eq_some_iff.mp H
 obtain ⟨t201, A20, H⟩ := H
 replace H : (some (t201 != 0)) = some r := H
 have A2 := Aside0.mk A20
 clear A20
 obtain rfl := Option.some.inj H
 go_enter Tryd.func16, Tryd.ntmps16
 go_wp2_with (first | ((with_reducible refine gate_callee (f := 14) rfl ?_); refine goesL_ (some 4) rfl rfl Tryd.func14 (by kernel_rfl) rfl #[.string a0] rfl (by (try simp only [List.map_toArray, List.map_cons, List.map_nil]); first | done | rfl | (simp only [List.length_drop, List.length_take]; rfl)) ?_; (with_reducible refine (int11_Form.calls a0 t201 _ A2.out).mono ?_); rintro e w3 ⟨rfl, hb⟩; refine ⟨_, rfl, ?_⟩; have n0_ := Aside0.mk (below_step bl hb); clear HB; have HB := n0_; clear n0_; (try clear hb); (try clear hb2); (try clear hk); (try clear hi)))
 go_ret
 exact ⟨by first | rfl | (simp [errW_none, errW_some] <;> rfl) | (simp [*, errW_none, errW_some] <;> rfl) | ((generalize ByteArray.toList _ = z_); cases z_ <;> first | rfl | (simp; done)), bl⟩

end Go.Proofs.YtkijneohhilboaaDoor.PI
