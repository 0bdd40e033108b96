/- Written by this session's own program (xprint, made over the kit's print): Lean functions with the same answers as the Go functions, and the proofs of that. Not trusted: Lean checks it. -/
import Derived.Test.YtbjlcipamdgnjaaDoorPNx0
import Derived.Test.YtbjlcipamdgnjaaDoorPNx6
import Derived.Test.YtbjlcipamdgnjaaDoorPNx7
import Derived.Test.YtbjlcipamdgnjaaDoorPNx18
import Derived.Test.YtbjlcipamdgnjaaDoorPNx19
import Derived.Test.YtbjlcipamdgnjaaDoorXW
namespace Go.Proofs.YtbjlcipamdgnjaaDoor.PN
open Go.Proofs.YtbjlcipamdgnjaaDoor.XW Go.RowKit Go.Proofs.YtbjlcipamdgnjaaDoorW.PrintWords Go.Proofs.YtbjlcipamdgnjaaDoorW.PrintLast Go.Proofs.YtbjlcipamdgnjaaDoorW.PrintMore
attribute [local go_sem] max2_int min2_int max_two min_two max_three min_three max_four min_four   -- for this text's walks alone
set_option linter.unusedVariables false
set_option linter.unusedSimpArgs false

/-! ### targumref6_Int11: function 19 -/
mutual
def targumref6_Int11.j0 : Nat → ByteArray → Bool → Bool → Option (ByteArray × Int)
 | 0, _, _, _ => none
 | k + 1, x4, x5, x27 => if x27 = true then (if 1 ≤ (x4.size : Int) then (if 1 < (x4.size : Int) then (if (bt x4 1) = 98 then (if 2 ≤ (x4.size : Int) then (targumref6_Int11.j1 k x4 x5 2 (x4.extract 2 x4.size) 1) else (none)) else (targumref6_Int11.j1 k x4 x5 8 (x4.extract 1 x4.size) 3)) else (none)) else (none)) else (if x4.toList = ([48] : List UInt8) then (some ((⟨#[48]⟩ : ByteArray), 4)) else (if x4.toList = ([] : List UInt8) then (some ((⟨#[]⟩ : ByteArray), 0)) else (if 0 < (x4.size : Int) then (if (bt x4 0) < 49 then (some ((⟨#[]⟩ : ByteArray), 0)) else (if (bt x4 0) > 57 then (some ((⟨#[]⟩ : ByteArray), 0)) else ((targumref6_bare.f k x4 10).bind fun bt442 => (if bt442.2 = true then ((targumref4_Norm.f k x5 bt442.1).bind fun t444 => (some (t444, 5))) else ((targumref6_sixty.f k x4).bind fun bt445 => (if bt445.2 = true then ((targumref4_Norm.f k x5 bt445.1).bind fun t447 => (some (t447, 6))) else (some ((⟨#[]⟩ : ByteArray), 0)))))))) else (none))))
def targumref6_Int11.j1 : Nat → ByteArray → Bool → Int → ByteArray → Int → Option (ByteArray × Int)
 | 0, _, _, _, _, _ => none
 | k + 1, x4, x5, x6, x7, x8 => if 1 < (x4.size : Int) then (if (bt x4 1) = 120 then (if 2 ≤ (x4.size : Int) then (targumref6_Int11.j2 k x5 16 (x4.extract 2 x4.size) 2) else (none)) else (targumref6_Int11.j2 k x5 x6 x7 x8)) else (none)
def targumref6_Int11.j2 : Nat → Bool → Int → ByteArray → Int → Option (ByteArray × Int)
 | 0, _, _, _, _ => none
 | k + 1, x5, x6, x7, x8 => (targumref6_bare.f k x7 x6).bind fun bt438 => (if bt438.2 = true then ((targumref4_Base.f k bt438.1 x6).bind fun t440 => ((targumref4_Norm.f k x5 t440).bind fun t441 => (some (t441, x8)))) else (some ((⟨#[]⟩ : ByteArray), 0)))
end
def targumref6_Int11.f (k : Nat) (a0 : ByteArray) : Option (ByteArray × Int) := (targumref6_sign.f a0).bind fun bt436 => (if (bt436.1.size : Int) ≥ 2 then (if 0 < (bt436.1.size : Int) then (targumref6_Int11.j0 k bt436.1 bt436.2 ((bt bt436.1 0) == 48)) else (none)) else (targumref6_Int11.j0 k bt436.1 bt436.2 false))
theorem targumref6_Int11.mono_l : ∀ k, (∀ y0 y1 y2, LeO (targumref6_Int11.j0 k y0 y1 y2) (targumref6_Int11.j0 (k + 1) y0 y1 y2)) ∧ (∀ y0 y1 y2 y3 y4, LeO (targumref6_Int11.j1 k y0 y1 y2 y3 y4) (targumref6_Int11.j1 (k + 1) y0 y1 y2 y3 y4)) ∧ (∀ y0 y1 y2 y3, LeO (targumref6_Int11.j2 k y0 y1 y2 y3) (targumref6_Int11.j2 (k + 1) y0 y1 y2 y3))
 | 0 => ⟨fun _ _ _ r h => by simp [targumref6_Int11.j0] at h, fun _ _ _ _ _ r h => by simp [targumref6_Int11.j1] at h, fun _ _ _ _ r h => by simp [targumref6_Int11.j2] at h⟩
 | k + 1 => by
  obtain ⟨ih0, ih1, ih2⟩ := targumref6_Int11.mono_l k
  refine ⟨?_, ?_, ?_⟩
  ·intro y0 y1 y2
   unfold targumref6_Int11.j0
   repeat' first
   | (with_reducible exact ih0 _ _ _)
   | (with_reducible exact ih1 _ _ _ _ _)
   | (with_reducible exact ih2 _ _ _ _)
   | (with_reducible exact targumref4_Base.mono _ _ _)
   | (with_reducible exact targumref4_Norm.mono _ _ _)
   | (with_reducible exact targumref6_bare.mono _ _ _)
   | (with_reducible exact targumref6_sixty.mono _ _)
   | (with_reducible exact LeO.refl _)
   | (with_reducible exact LeO.none _)
   | (with_reducible refine LeO.ite ?_ ?_)
   | (with_reducible refine LeO.bind ?_ (fun _ => ?_))
   | exact ih0 _ _ _
   | exact ih1 _ _ _ _ _
   | exact ih2 _ _ _ _
   | exact targumref4_Base.mono _ _ _
   | exact targumref4_Norm.mono _ _ _
   | exact targumref6_bare.mono _ _ _
   | exact targumref6_sixty.mono _ _
   | exact LeO.none _
   | refine LeO.ite ?_ ?_
   | refine LeO.bind ?_ (fun _ => ?_)
  ·intro y0 y1 y2 y3 y4
   unfold targumref6_Int11.j1
   repeat' first
   | (with_reducible exact ih0 _ _ _)
   | (with_reducible exact ih1 _ _ _ _ _)
   | (with_reducible exact ih2 _ _ _ _)
   | (with_reducible exact targumref4_Base.mono _ _ _)
   | (with_reducible exact targumref4_Norm.mono _ _ _)
   | (with_reducible exact targumref6_bare.mono _ _ _)
   | (with_reducible exact targumref6_sixty.mono _ _)
   | (with_reducible exact LeO.refl _)
   | (with_reducible exact LeO.none _)
   | (with_reducible refine LeO.ite ?_ ?_)
   | (with_reducible refine LeO.bind ?_ (fun _ => ?_))
   | exact ih0 _ _ _
   | exact ih1 _ _ _ _ _
   | exact ih2 _ _ _ _
   | exact targumref4_Base.mono _ _ _
   | exact targumref4_Norm.mono _ _ _
   | exact targumref6_bare.mono _ _ _
   | exact targumref6_sixty.mono _ _
   | exact LeO.none _
   | refine LeO.ite ?_ ?_
   | refine LeO.bind ?_ (fun _ => ?_)
  ·intro y0 y1 y2 y3
   unfold targumref6_Int11.j2
   repeat' first
   | (with_reducible exact ih0 _ _ _)
   | (with_reducible exact ih1 _ _ _ _ _)
   | (with_reducible exact ih2 _ _ _ _)
   | (with_reducible exact targumref4_Base.mono _ _ _)
   | (with_reducible exact targumref4_Norm.mono _ _ _)
   | (with_reducible exact targumref6_bare.mono _ _ _)
   | (with_reducible exact targumref6_sixty.mono _ _)
   | (with_reducible exact LeO.refl _)
   | (with_reducible exact LeO.none _)
   | (with_reducible refine LeO.ite ?_ ?_)
   | (with_reducible refine LeO.bind ?_ (fun _ => ?_))
   | exact ih0 _ _ _
   | exact ih1 _ _ _ _ _
   | exact ih2 _ _ _ _
   | exact targumref4_Base.mono _ _ _
   | exact targumref4_Norm.mono _ _ _
   | exact targumref6_bare.mono _ _ _
   | exact targumref6_sixty.mono _ _
   | exact LeO.none _
   | refine LeO.ite ?_ ?_
   | refine LeO.bind ?_ (fun _ => ?_)
theorem targumref6_Int11.mono : ∀ a0 k, LeO (targumref6_Int11.f k a0) (targumref6_Int11.f (k + 1) a0) := by
 intro a0 k
 obtain ⟨ih0, ih1, ih2⟩ := targumref6_Int11.mono_l k
 unfold targumref6_Int11.f
 repeat' first
   | (with_reducible exact ih0 _ _ _)
   | (with_reducible exact ih1 _ _ _ _ _)
   | (with_reducible exact ih2 _ _ _ _)
   | (with_reducible exact targumref4_Base.mono _ _ _)
   | (with_reducible exact targumref4_Norm.mono _ _ _)
   | (with_reducible exact targumref6_bare.mono _ _ _)
   | (with_reducible exact targumref6_sixty.mono _ _)
   | (with_reducible exact LeO.refl _)
   | (with_reducible exact LeO.none _)
   | (with_reducible refine LeO.ite ?_ ?_)
   | (with_reducible refine LeO.bind ?_ (fun _ => ?_))
   | exact ih0 _ _ _
   | exact ih1 _ _ _ _ _
   | exact ih2 _ _ _ _
   | exact targumref4_Base.mono _ _ _
   | exact targumref4_Norm.mono _ _ _
   | exact targumref6_bare.mono _ _ _
   | exact targumref6_sixty.mono _ _
   | exact LeO.none _
   | refine LeO.ite ?_ ?_
   | refine LeO.bind ?_ (fun _ => ?_)
set_option maxHeartbeats 8000000 in
set_option maxRecDepth 100000 in
theorem targumref6_Int11.calls (k : Nat) (a0 : ByteArray) (r1 : ByteArray) (r2 : Int) (w : World) (h : targumref6_Int11.f k a0 = some (r1, r2)) :
  Calls Tryd.prog 19 #[.string a0] w fun e w' => e = .returned (.tuple #[.string r1, .int .i64 r2]) ∧ Below w.heap.size w w' := by
 have HB := Aside0.mk (Below.refl w.heap.size w)
 have H : ((targumref6_sign.f a0).bind fun bt436 => (if (bt436.1.size : Int) ≥ 2 then (if 0 < (bt436.1.size : Int) then (targumref6_Int11.j0 k bt436.1 bt436.2 ((bt bt436.1 0) == 48)) else (none)) else (targumref6_Int11.j0 k bt436.1 bt436.2 false))) = some (r1, r2) := h
 clear h
 replace H := Option.bind_eq_some_iff.mp H
 obtain ⟨⟨t436, t437⟩, A20, H⟩ := H
 replace H : (if (t436.size : Int) ≥ 2 then (if 0 < (t436.size : Int) then (targumref6_Int11.j0 k t436 t437 ((bt t436 0) == 48)) else (none)) else (targumref6_Int11.j0 k t436 t437 false)) = some (r1, r2) := H
 have A2 := Aside0.mk A20
 clear A20
 have HC3 := Aside0.mk H
 clear H
 go_enter Tryd.func19, Tryd.ntmps19
 go_upto_region 2 with (first | (go_at_call 26; (try (rename_i hK_; simp only [List.append] at hK_)); (with_reducible refine (targumref6_sign.calls a0 t436 t437 _ A2.out).mono ?_); rintro e w' ⟨rfl, ⟨nd, rfl⟩⟩; (try first | exact ⟨rfl, _, World.drewN_drewN _ _ _⟩ | exact ⟨rfl, _, Eq.trans (World.drewN_drewN _ _ _) (congrArg (World.drewN _) (Nat.add_assoc _ _ _))⟩)))
 repeat (go_quiet (first | (go_at_call 26; (try (rename_i hK_; simp only [List.append] at hK_)); (with_reducible refine (targumref6_sign.calls a0 t436 t437 _ A2.out).mono ?_); rintro e w' ⟨rfl, ⟨nd, rfl⟩⟩; (try first | exact ⟨rfl, _, World.drewN_drewN _ _ _⟩ | exact ⟨rfl, _, Eq.trans (World.drewN_drewN _ _ _) (congrArg (World.drewN _) (Nat.add_assoc _ _ _))⟩))); go_upto_region 2 with (first | (go_at_call 26; (try (rename_i hK_; simp only [List.append] at hK_)); (with_reducible refine (targumref6_sign.calls a0 t436 t437 _ A2.out).mono ?_); rintro e w' ⟨rfl, ⟨nd, rfl⟩⟩; (try first | exact ⟨rfl, _, World.drewN_drewN _ _ _⟩ | exact ⟨rfl, _, Eq.trans (World.drewN_drewN _ _ _) (congrArg (World.drewN _) (Nat.add_assoc _ _ _))⟩))))
 (try simp only [Act.put, List.setIfInBounds_toArray, List.set_cons_zero, List.set_cons_succ])
 go_cut [27] (fun v27 wc => ∃ (kq : Nat) (x27_2 : Bool), v27 = .bool x27_2 ∧ Aside0 (targumref6_Int11.j0 kq t436 t437 x27_2 = some (r1, r2)) ∧ Aside0 (kq ≤ k) ∧ Aside0 (Below w.heap.size w wc))
 case first =>
  have H := HC3.out
  clear HC3
  by_cases c4 : (t436.size : Int) ≥ 2
  ·rw [if_pos c4] at H
   have c4b0 : decide (2 ≤ (t436.size : Int)) = true := decide_eq_true c4
   have c4b1 : decide (2 ≤ t436.size) = true := decide_eq_true (by omega)
   clear c4
   (first | rw [c4b0] | (simp only [i64_w, i32_w]; rw [c4b0]) | skip)
   by_cases c5 : 0 < (t436.size : Int)
   ·rw [if_pos c5] at H
    have c5b0 : decide (0 < (t436.size : Int)) = true := decide_eq_true c5
    have c5b1 : decide (0 < t436.size) = true := decide_eq_true (by omega)
    clear c5
    have H' := Aside0.mk H
    clear H
    have p6 : 0 ≤ (0 : Int) := (by omega)
    have q6 : 0 < t436.size := (by have : (0 : Int) < (t436.size : Int) := of_decide_eq_true (by first | (with_reducible assumption) | assumption); omega)
    have hx6 : ∀ h : 0 < t436.size, ((t436[0]'h).toNat : Int) = bt t436 0 := bt_at t436 0
    clear p6
    have qi6 : (0 < (t436.size : Int)) = True := eq_true (of_decide_eq_true (by first | (with_reducible assumption) | assumption))
    replace q6 := eq_true q6
    go_wp2
    repeat (go_quiet (fail); try go_wp2)
    go_meet
    case rel => exact ⟨_, (((bt t436 0) == 48)), (by first | rfl | (simp; done) | (simp [*]; done) | (simp [wrap64]; done)), H', ⟨by first | omega | exact Nat.le_refl _⟩, ⟨bl⟩⟩
   ·rw [if_neg c5] at H
    exact absurd H (by simp)
  ·rw [if_neg c4] at H
   have c4b0 : decide (2 ≤ (t436.size : Int)) = false := decide_eq_false c4
   have c4b1 : decide (2 ≤ t436.size) = false := decide_eq_false (by omega)
   clear c4
   (first | rw [c4b0] | (simp only [i64_w, i32_w]; rw [c4b0]) | skip)
   have H' := Aside0.mk H
   clear H
   go_wp2
   repeat (go_quiet (fail); try go_wp2)
   go_meet
   case rel => exact ⟨_, (false), (by first | rfl | (simp; done) | (simp [*]; done) | (simp [wrap64]; done)), H', ⟨by first | omega | exact Nat.le_refl _⟩, ⟨bl⟩⟩
 case rest =>
  clear HC3
  try clear c1; try clear p2; try clear c4; try clear c4b0; try clear c4b1; try clear c5; try clear c5b0; try clear c5b1; try clear p6; try clear q6; try clear hx6; try clear qi6; try clear p6; try clear q6
  obtain ⟨kq, x27_2, rfl, HA, HJ2, HB⟩ := hcut
  cases kq with
  | zero => exact absurd HA.out (by simp [targumref6_Int11.j0])
  | succ kj2 =>
   have H := HA.out
   clear HA
   simp only [targumref6_Int11.j0] at H
   by_cases c7 : x27_2 = true
   ·subst c7
    have H1 : (if 1 ≤ (t436.size : Int) then (if 1 < (t436.size : Int) then (if (bt t436 1) = 98 then (if 2 ≤ (t436.size : Int) then (targumref6_Int11.j1 kj2 t436 t437 2 (t436.extract 2 t436.size) 1) else (none)) else (targumref6_Int11.j1 kj2 t436 t437 8 (t436.extract 1 t436.size) 3)) else (none)) else (none)) = some (r1, r2) := by rw [if_pos rfl] at H; exact H
    clear H
    have H := H1
    clear H1
    by_cases c8 : 1 ≤ (t436.size : Int)
    ·rw [if_pos c8] at H
     have c8b0 := eq_true c8
     have c8b1 : decide (1 ≤ (t436.size : Int)) = true := decide_eq_true c8
     clear c8
     by_cases c9 : 1 < (t436.size : Int)
     ·rw [if_pos c9] at H
      have c9b0 : decide (1 < (t436.size : Int)) = true := decide_eq_true c9
      have c9b1 : decide (1 < t436.size) = true := decide_eq_true (by omega)
      clear c9
      have HC11 := Aside0.mk H
      clear H
      have p10 : 0 ≤ (1 : Int) := (by omega)
      have q10 : 1 < t436.size := (by have : (1 : Int) < (t436.size : Int) := of_decide_eq_true (by first | (with_reducible assumption) | assumption); omega)
      have hx10 : ∀ h : 1 < t436.size, ((t436[1]'h).toNat : Int) = bt t436 1 := bt_at t436 1
      clear p10
      have qi10 : (1 < (t436.size : Int)) = True := eq_true (of_decide_eq_true (by first | (with_reducible assumption) | assumption))
      replace q10 := eq_true q10
      go_upto_if 32 with (fail)
      repeat (go_quiet (fail); go_upto_if 32 with (fail))
      go_cut [6, 7, 8] (fun v6 v7 v8 wc => ∃ (kq : Nat) (x6_10 : Int) (x7_10 : ByteArray) (x8_10 : Int), v6 = .int .i64 x6_10 ∧ v7 = .string x7_10 ∧ v8 = .int .i64 x8_10 ∧ Aside0 (targumref6_Int11.j1 kq t436 t437 x6_10 x7_10 x8_10 = some (r1, r2)) ∧ Aside0 (kq ≤ kj2) ∧ Aside0 (Below w.heap.size w wc))
      case first =>
       have H := HC11.out
       clear HC11
       by_cases c12 : (bt t436 1) = 98
       ·rw [if_pos c12] at H
        have c12b0 : ((bt t436 1) == 98) = true := beq_iff_eq.mpr c12
        have c12b1 : ((bt t436 1) != 98) = false := bne_eq_false_iff_eq.mpr c12
        clear c12
        (first | rw [c12b0] | (simp only [i64_w, i32_w]; rw [c12b0]) | skip)
        by_cases c13 : 2 ≤ (t436.size : Int)
        ·rw [if_pos c13] at H
         have c13b0 := eq_true c13
         have c13b1 : decide (2 ≤ (t436.size : Int)) = true := decide_eq_true c13
         clear c13
         have H' := Aside0.mk H
         clear H
         go_wp2
         repeat (go_quiet (fail); try go_wp2)
         go_meet
         case rel => exact ⟨_, (2), (t436.extract 2 t436.size), (1), (by first | rfl | (simp; done) | (simp [*]; done) | (simp [wrap64]; done)), (by first | rfl | (simp; done) | (simp [*]; done) | (simp [wrap64]; done)), (by first | rfl | (simp; done) | (simp [*]; done) | (simp [wrap64]; done)), H', ⟨by have := HJ2.out; first | omega | exact Nat.le_refl _⟩, ⟨bl⟩⟩
        ·rw [if_neg c13] at H
         exact absurd H (by simp)
       ·rw [if_neg c12] at H
        have c12b0 : ((bt t436 1) == 98) = false := beq_eq_false_iff_ne.mpr c12
        have c12b1 : ((bt t436 1) != 98) = true := bne_iff_ne.mpr c12
        (first | rw [c12b0] | (simp only [i64_w, i32_w]; rw [c12b0]) | skip)
        have H' := Aside0.mk H
        clear H
        go_wp2
        repeat (go_quiet (fail); try go_wp2)
        go_meet
        case rel => exact ⟨_, (8), (t436.extract 1 t436.size), (3), (by first | rfl | (simp; done) | (simp [*]; done) | (simp [wrap64]; done)), (by first | rfl | (simp; done) | (simp [*]; done) | (simp [wrap64]; done)), (by first | rfl | (simp; done) | (simp [*]; done) | (simp [wrap64]; done)), H', ⟨by have := HJ2.out; first | omega | exact Nat.le_refl _⟩, ⟨bl⟩⟩
      case rest =>
       clear HC11
       try clear c1; try clear p1; try clear q1; try clear hx1; try clear qi1; try clear p2; try clear c4; try clear c4b0; try clear c4b1; try clear c5; try clear c5b0; try clear c5b1; try clear p6; try clear q6; try clear hx6; try clear qi6; try clear c7; try clear c8; try clear c8b0; try clear c8b1; try clear c9; try clear c9b0; try clear c9b1; try clear p10; try clear q10; try clear hx10; try clear qi10; try clear c12; try clear c12b0; try clear c12b1; try clear c13; try clear c13b0; try clear c13b1; try clear p10; try clear p2; try clear p6; try clear q10; try clear q6
       obtain ⟨kq, x6_10, x7_10, x8_10, rfl, rfl, rfl, HA, HJ10, HB⟩ := hcut
       cases kq with
       | zero => exact absurd HA.out (by simp [targumref6_Int11.j1])
       | succ kj10 =>
        have H := HA.out
        clear HA
        simp only [targumref6_Int11.j1] at H
        by_cases c14 : 1 < (t436.size : Int)
        ·rw [if_pos c14] at H
         have c14b0 : decide (1 < (t436.size : Int)) = true := decide_eq_true c14
         have c14b1 : decide (1 < t436.size) = true := decide_eq_true (by omega)
         clear c14
         have HC16 := Aside0.mk H
         clear H
         have p15 : 0 ≤ (1 : Int) := (by omega)
         have q15 : 1 < t436.size := (by have : (1 : Int) < (t436.size : Int) := of_decide_eq_true (by first | (with_reducible assumption) | assumption); omega)
         have hx15 : ∀ h : 1 < t436.size, ((t436[1]'h).toNat : Int) = bt t436 1 := bt_at t436 1
         clear p15
         have qi15 : (1 < (t436.size : Int)) = True := eq_true (of_decide_eq_true (by first | (with_reducible assumption) | assumption))
         replace q15 := eq_true q15
         go_upto_if 37 with (fail)
         repeat (go_quiet (fail); go_upto_if 37 with (fail))
         go_cut [6, 7, 8] (fun v6 v7 v8 wc => ∃ (kq : Nat) (x6_15 : Int) (x7_15 : ByteArray) (x8_15 : Int), v6 = .int .i64 x6_15 ∧ v7 = .string x7_15 ∧ v8 = .int .i64 x8_15 ∧ Aside0 (targumref6_Int11.j2 kq t437 x6_15 x7_15 x8_15 = some (r1, r2)) ∧ Aside0 (kq ≤ kj10) ∧ Aside0 (Below w.heap.size w wc))
         case first =>
          have H := HC16.out
          clear HC16
          by_cases c17 : (bt t436 1) = 120
          ·rw [if_pos c17] at H
           have c17b0 : ((bt t436 1) == 120) = true := beq_iff_eq.mpr c17
           have c17b1 : ((bt t436 1) != 120) = false := bne_eq_false_iff_eq.mpr c17
           clear c17
           (first | rw [c17b0] | (simp only [i64_w, i32_w]; rw [c17b0]) | skip)
           by_cases c18 : 2 ≤ (t436.size : Int)
           ·rw [if_pos c18] at H
            have c18b0 := eq_true c18
            have c18b1 : decide (2 ≤ (t436.size : Int)) = true := decide_eq_true c18
            clear c18
            have H' := Aside0.mk H
            clear H
            go_wp2
            repeat (go_quiet (fail); try go_wp2)
            go_meet
            case rel => exact ⟨_, (16), (t436.extract 2 t436.size), (2), (by first | rfl | (simp; done) | (simp [*]; done) | (simp [wrap64]; done)), (by first | rfl | (simp; done) | (simp [*]; done) | (simp [wrap64]; done)), (by first | rfl | (simp; done) | (simp [*]; done) | (simp [wrap64]; done)), H', ⟨by have := HJ2.out; have := HJ10.out; first | omega | exact Nat.le_refl _⟩, ⟨bl⟩⟩
           ·rw [if_neg c18] at H
            exact absurd H (by simp)
          ·rw [if_neg c17] at H
           have c17b0 : ((bt t436 1) == 120) = false := beq_eq_false_iff_ne.mpr c17
           have c17b1 : ((bt t436 1) != 120) = true := bne_iff_ne.mpr c17
           (first | rw [c17b0] | (simp only [i64_w, i32_w]; rw [c17b0]) | skip)
           have H' := Aside0.mk H
           clear H
           go_wp2
           repeat (go_quiet (fail); try go_wp2)
           go_meet
           case rel => exact ⟨_, (x6_10), (x7_10), (x8_10), (by first | rfl | (simp; done) | (simp [*]; done) | (simp [wrap64]; done)), (by first | rfl | (simp; done) | (simp [*]; done) | (simp [wrap64]; done)), (by first | rfl | (simp; done) | (simp [*]; done) | (simp [wrap64]; done)), H', ⟨by have := HJ2.out; have := HJ10.out; first | omega | exact Nat.le_refl _⟩, ⟨bl⟩⟩
         case rest =>
          clear HC16
          try clear c1; try clear p1; try clear q1; try clear hx1; try clear qi1; try clear p2; try clear c4; try clear c4b0; try clear c4b1; try clear c5; try clear c5b0; try clear c5b1; try clear p6; try clear q6; try clear hx6; try clear qi6; try clear c7; try clear c8; try clear c8b0; try clear c8b1; try clear c9; try clear c9b0; try clear c9b1; try clear p10; try clear q10; try clear hx10; try clear qi10; try clear c12; try clear c12b0; try clear c12b1; try clear c13; try clear c13b0; try clear c13b1; try clear c14; try clear c14b0; try clear c14b1; try clear p15; try clear q15; try clear hx15; try clear qi15; try clear c17; try clear c17b0; try clear c17b1; try clear c18; try clear c18b0; try clear c18b1; try clear p1; try clear p10; try clear p15; try clear p2; try clear p6; try clear q1; try clear q10; try clear q15; try clear q6
          obtain ⟨kq, x6_15, x7_15, x8_15, rfl, rfl, rfl, HA, HJ15, HB⟩ := hcut
          cases kq with
          | zero => exact absurd HA.out (by simp [targumref6_Int11.j2])
          | succ kj15 =>
           have H := HA.out
           clear HA
           simp only [targumref6_Int11.j2] at H
           replace H := Option.bind_eq_some_iff.mp H
           obtain ⟨⟨t438, t439⟩, A190, H⟩ := H
           replace H : (if t439 = true then ((targumref4_Base.f kj15 t438 x6_15).bind fun t440 => ((targumref4_Norm.f kj15 t437 t440).bind fun t441 => (some (t441, x8_15)))) else (some ((⟨#[]⟩ : ByteArray), 0))) = some (r1, r2) := H
           have A19 := Aside0.mk A190
           clear A190
           by_cases c20 : t439 = true
           ·subst c20
            have H1 : ((targumref4_Base.f kj15 t438 x6_15).bind fun t440 => ((targumref4_Norm.f kj15 t437 t440).bind fun t441 => (some (t441, x8_15)))) = some (r1, r2) := by rw [if_pos rfl] at H; exact H
            clear H
            have H := H1
            clear H1
            replace H := Option.bind_eq_some_iff.mp H
            obtain ⟨t440, A210, H⟩ := H
            replace H : ((targumref4_Norm.f kj15 t437 t440).bind fun t441 => (some (t441, x8_15))) = some (r1, r2) := H
            have A21 := Aside0.mk A210
            clear A210
            replace H := Option.bind_eq_some_iff.mp H
            obtain ⟨t441, A220, H⟩ := H
            replace H : (some (t441, x8_15)) = some (r1, r2) := H
            have A22 := Aside0.mk A220
            clear A220
            simp only [Option.some.injEq, Prod.mk.injEq] at H
            obtain ⟨rfl, rfl⟩ := H
            go_wp2_with (first | (go_at_call 39; (try (rename_i hK_; simp only [List.append] at hK_)); (with_reducible refine (targumref6_bare.calls kj15 x7_15 x6_15 t438 true _ A19.out).mono ?_); rintro e w23 ⟨rfl, hb⟩; have n0_ := Aside0.mk (below_step bl hb); clear HB; have HB := n0_; clear n0_; (try clear hb); (try clear hb2); (try clear hk); (try clear hi)) | (go_at_call 25; (try (rename_i hK_; simp only [List.append] at hK_)); (with_reducible refine (targumref4_Base.calls kj15 t438 x6_15 t440 _ A21.out).mono ?_); rintro e w24 ⟨rfl, hb⟩; have n0_ := Aside0.mk (below_step bl hb); clear HB; have HB := n0_; clear n0_; (try clear hb); (try clear hb2); (try clear hk); (try clear hi)) | (go_at_call 18; (try (rename_i hK_; simp only [List.append] at hK_)); (with_reducible refine (targumref4_Norm.calls kj15 t437 t440 t441 _ A22.out).mono ?_); rintro e w' ⟨rfl, ⟨nd, rfl⟩⟩; (try first | exact ⟨rfl, _, World.drewN_drewN _ _ _⟩ | exact ⟨rfl, _, Eq.trans (World.drewN_drewN _ _ _) (congrArg (World.drewN _) (Nat.add_assoc _ _ _))⟩)))
            repeat (go_quiet (first | (go_at_call 39; (try (rename_i hK_; simp only [List.append] at hK_)); (with_reducible refine (targumref6_bare.calls kj15 x7_15 x6_15 t438 true _ A19.out).mono ?_); rintro e w23 ⟨rfl, hb⟩; have n0_ := Aside0.mk (below_step bl hb); clear HB; have HB := n0_; clear n0_; (try clear hb); (try clear hb2); (try clear hk); (try clear hi)) | (go_at_call 25; (try (rename_i hK_; simp only [List.append] at hK_)); (with_reducible refine (targumref4_Base.calls kj15 t438 x6_15 t440 _ A21.out).mono ?_); rintro e w24 ⟨rfl, hb⟩; have n0_ := Aside0.mk (below_step bl hb); clear HB; have HB := n0_; clear n0_; (try clear hb); (try clear hb2); (try clear hk); (try clear hi)) | (go_at_call 18; (try (rename_i hK_; simp only [List.append] at hK_)); (with_reducible refine (targumref4_Norm.calls kj15 t437 t440 t441 _ A22.out).mono ?_); rintro e w' ⟨rfl, ⟨nd, rfl⟩⟩; (try first | exact ⟨rfl, _, World.drewN_drewN _ _ _⟩ | exact ⟨rfl, _, Eq.trans (World.drewN_drewN _ _ _) (congrArg (World.drewN _) (Nat.add_assoc _ _ _))⟩))); try go_wp2_with (first | (go_at_call 39; (try (rename_i hK_; simp only [List.append] at hK_)); (with_reducible refine (targumref6_bare.calls kj15 x7_15 x6_15 t438 true _ A19.out).mono ?_); rintro e w23 ⟨rfl, hb⟩; have n0_ := Aside0.mk (below_step bl hb); clear HB; have HB := n0_; clear n0_; (try clear hb); (try clear hb2); (try clear hk); (try clear hi)) | (go_at_call 25; (try (rename_i hK_; simp only [List.append] at hK_)); (with_reducible refine (targumref4_Base.calls kj15 t438 x6_15 t440 _ A21.out).mono ?_); rintro e w24 ⟨rfl, hb⟩; have n0_ := Aside0.mk (below_step bl hb); clear HB; have HB := n0_; clear n0_; (try clear hb); (try clear hb2); (try clear hk); (try clear hi)) | (go_at_call 18; (try (rename_i hK_; simp only [List.append] at hK_)); (with_reducible refine (targumref4_Norm.calls kj15 t437 t440 t441 _ A22.out).mono ?_); rintro e w' ⟨rfl, ⟨nd, rfl⟩⟩; (try first | exact ⟨rfl, _, World.drewN_drewN _ _ _⟩ | exact ⟨rfl, _, Eq.trans (World.drewN_drewN _ _ _) (congrArg (World.drewN _) (Nat.add_assoc _ _ _))⟩))))
            go_ret2
            exact ⟨by first | rfl | (simp [errW_none, errW_some] <;> rfl) | (simp [*, errW_none, errW_some] <;> rfl) | ((generalize ByteArray.toList _ = z_); cases z_ <;> first | rfl | (simp; done)), bl⟩
           ·replace c20 := Bool.eq_false_iff.mpr c20
            subst c20
            have H1 : (some ((⟨#[]⟩ : ByteArray), 0)) = some (r1, r2) := by rw [if_neg (show ¬ (false = true) by decide)] at H; exact H
            clear H
            have H := H1
            clear H1
            simp only [Option.some.injEq, Prod.mk.injEq] at H
            obtain ⟨rfl, rfl⟩ := H
            go_wp2_with (first | (go_at_call 39; (try (rename_i hK_; simp only [List.append] at hK_)); (with_reducible refine (targumref6_bare.calls kj15 x7_15 x6_15 t438 false _ A19.out).mono ?_); rintro e w25 ⟨rfl, hb⟩; have n0_ := Aside0.mk (below_step bl hb); clear HB; have HB := n0_; clear n0_; (try clear hb); (try clear hb2); (try clear hk); (try clear hi)))
            repeat (go_quiet (first | (go_at_call 39; (try (rename_i hK_; simp only [List.append] at hK_)); (with_reducible refine (targumref6_bare.calls kj15 x7_15 x6_15 t438 false _ A19.out).mono ?_); rintro e w25 ⟨rfl, hb⟩; have n0_ := Aside0.mk (below_step bl hb); clear HB; have HB := n0_; clear n0_; (try clear hb); (try clear hb2); (try clear hk); (try clear hi))); try go_wp2_with (first | (go_at_call 39; (try (rename_i hK_; simp only [List.append] at hK_)); (with_reducible refine (targumref6_bare.calls kj15 x7_15 x6_15 t438 false _ A19.out).mono ?_); rintro e w25 ⟨rfl, hb⟩; have n0_ := Aside0.mk (below_step bl hb); clear HB; have HB := n0_; clear n0_; (try clear hb); (try clear hb2); (try clear hk); (try clear hi))))
            go_ret2
            exact ⟨by first | rfl | (simp [errW_none, errW_some] <;> rfl) | (simp [*, errW_none, errW_some] <;> rfl) | ((generalize ByteArray.toList _ = z_); cases z_ <;> first | rfl | (simp; done)), bl⟩
        ·rw [if_neg c14] at H
         exact absurd H (by simp)
     ·rw [if_neg c9] at H
      exact absurd H (by simp)
    ·rw [if_neg c8] at H
     exact absurd H (by simp)
   ·replace c7 := Bool.eq_false_iff.mpr c7
    subst c7
    have H1 : (if t436.toList = ([48] : List UInt8) then (some ((⟨#[48]⟩ : ByteArray), 4)) else (if t436.toList = ([] : List UInt8) then (some ((⟨#[]⟩ : ByteArray), 0)) else (if 0 < (t436.size : Int) then (if (bt t436 0) < 49 then (some ((⟨#[]⟩ : ByteArray), 0)) else (if (bt t436 0) > 57 then (some ((⟨#[]⟩ : ByteArray), 0)) else ((targumref6_bare.f kj2 t436 10).bind fun bt442 => (if bt442.2 = true then ((targumref4_Norm.f kj2 t437 bt442.1).bind fun t444 => (some (t444, 5))) else ((targumref6_sixty.f kj2 t436).bind fun bt445 => (if bt445.2 = true then ((targumref4_Norm.f kj2 t437 bt445.1).bind fun t447 => (some (t447, 6))) else (some ((⟨#[]⟩ : ByteArray), 0)))))))) else (none)))) = some (r1, r2) := by rw [if_neg (show ¬ (false = true) by decide)] at H; exact H
    clear H
    have H := H1
    clear H1
    by_cases c26 : t436.toList = ([48] : List UInt8)
    ·rw [if_pos c26] at H
     have c26b0 : (t436.toList == ([48] : List UInt8)) = true := beq_iff_eq.mpr c26
     have c26b1 : (t436.toList != ([48] : List UInt8)) = false := bne_eq_false_iff_eq.mpr c26
     clear c26
     simp only [Option.some.injEq, Prod.mk.injEq] at H
     obtain ⟨rfl, rfl⟩ := H
     go_wp2
     repeat (go_quiet (fail); try go_wp2)
     go_ret2
     exact ⟨by first | rfl | (simp [errW_none, errW_some] <;> rfl) | (simp [*, errW_none, errW_some] <;> rfl) | ((generalize ByteArray.toList _ = z_); cases z_ <;> first | rfl | (simp; done)), bl⟩
    ·rw [if_neg c26] at H
     have c26b0 : (t436.toList == ([48] : List UInt8)) = false := beq_eq_false_iff_ne.mpr c26
     have c26b1 : (t436.toList != ([48] : List UInt8)) = true := bne_iff_ne.mpr c26
     by_cases c27 : t436.toList = ([] : List UInt8)
     ·rw [if_pos c27] at H
      have c27b0 : (t436.toList == ([] : List UInt8)) = true := beq_iff_eq.mpr c27
      have c27b1 : (t436.toList != ([] : List UInt8)) = false := bne_eq_false_iff_eq.mpr c27
      clear c27
      simp only [Option.some.injEq, Prod.mk.injEq] at H
      obtain ⟨rfl, rfl⟩ := H
      go_wp2
      repeat (go_quiet (fail); try go_wp2)
      go_ret2
      exact ⟨by first | rfl | (simp [errW_none, errW_some] <;> rfl) | (simp [*, errW_none, errW_some] <;> rfl) | ((generalize ByteArray.toList _ = z_); cases z_ <;> first | rfl | (simp; done)), bl⟩
     ·rw [if_neg c27] at H
      have c27b0 : (t436.toList == ([] : List UInt8)) = false := beq_eq_false_iff_ne.mpr c27
      have c27b1 : (t436.toList != ([] : List UInt8)) = true := bne_iff_ne.mpr c27
      by_cases c28 : 0 < (t436.size : Int)
      ·rw [if_pos c28] at H
       have c28b0 : decide (0 < (t436.size : Int)) = true := decide_eq_true c28
       have c28b1 : decide (0 < t436.size) = true := decide_eq_true (by omega)
       clear c28
       by_cases c30 : (bt t436 0) < 49
       ·rw [if_pos c30] at H
        have c30b0 : decide ((bt t436 0) < 49) = true := decide_eq_true c30
        clear c30
        simp only [Option.some.injEq, Prod.mk.injEq] at H
        obtain ⟨rfl, rfl⟩ := H
        have p29 : 0 ≤ (0 : Int) := (by omega)
        have q29 : 0 < t436.size := (by have : (0 : Int) < (t436.size : Int) := of_decide_eq_true (by first | (with_reducible assumption) | assumption); omega)
        have hx29 : ∀ h : 0 < t436.size, ((t436[0]'h).toNat : Int) = bt t436 0 := bt_at t436 0
        clear p29
        have qi29 : (0 < (t436.size : Int)) = True := eq_true (of_decide_eq_true (by first | (with_reducible assumption) | assumption))
        replace q29 := eq_true q29
        go_wp2
        repeat (go_quiet (fail); try go_wp2)
        go_ret2
        exact ⟨by first | rfl | (simp [errW_none, errW_some] <;> rfl) | (simp [*, errW_none, errW_some] <;> rfl) | ((generalize ByteArray.toList _ = z_); cases z_ <;> first | rfl | (simp; done)), bl⟩
       ·rw [if_neg c30] at H
        have c30b0 : decide ((bt t436 0) < 49) = false := decide_eq_false c30
        clear c30
        by_cases c32 : (bt t436 0) > 57
        ·rw [if_pos c32] at H
         have c32b0 : decide (57 < (bt t436 0)) = true := decide_eq_true c32
         clear c32
         simp only [Option.some.injEq, Prod.mk.injEq] at H
         obtain ⟨rfl, rfl⟩ := H
         have p29 : 0 ≤ (0 : Int) := (by omega)
         have q29 : 0 < t436.size := (by have : (0 : Int) < (t436.size : Int) := of_decide_eq_true (by first | (with_reducible assumption) | assumption); omega)
         have hx29 : ∀ h : 0 < t436.size, ((t436[0]'h).toNat : Int) = bt t436 0 := bt_at t436 0
         clear p29
         have qi29 : (0 < (t436.size : Int)) = True := eq_true (of_decide_eq_true (by first | (with_reducible assumption) | assumption))
         replace q29 := eq_true q29
         have p31 : 0 ≤ (0 : Int) := (by omega)
         have q31 : 0 < t436.size := (by have : (0 : Int) < (t436.size : Int) := of_decide_eq_true (by first | (with_reducible assumption) | assumption); omega)
         have hx31 : ∀ h : 0 < t436.size, ((t436[0]'h).toNat : Int) = bt t436 0 := bt_at t436 0
         clear p31
         have qi31 : (0 < (t436.size : Int)) = True := eq_true (of_decide_eq_true (by first | (with_reducible assumption) | assumption))
         replace q31 := eq_true q31
         go_wp2
         repeat (go_quiet (fail); try go_wp2)
         go_ret2
         exact ⟨by first | rfl | (simp [errW_none, errW_some] <;> rfl) | (simp [*, errW_none, errW_some] <;> rfl) | ((generalize ByteArray.toList _ = z_); cases z_ <;> first | rfl | (simp; done)), bl⟩
        ·rw [if_neg c32] at H
         have c32b0 : decide (57 < (bt t436 0)) = false := decide_eq_false c32
         clear c32
         replace H := Option.bind_eq_some_iff.mp H
         obtain ⟨⟨t442, t443⟩, A330, H⟩ := H
         replace H : (if t443 = true then ((targumref4_Norm.f kj2 t437 t442).bind fun t444 => (some (t444, 5))) else ((targumref6_sixty.f kj2 t436).bind fun bt445 => (if bt445.2 = true then ((targumref4_Norm.f kj2 t437 bt445.1).bind fun t447 => (some (t447, 6))) else (some ((⟨#[]⟩ : ByteArray), 0))))) = some (r1, r2) := H
         have A33 := Aside0.mk A330
         clear A330
         by_cases c34 : t443 = true
         ·subst c34
          have H1 : ((targumref4_Norm.f kj2 t437 t442).bind fun t444 => (some (t444, 5))) = some (r1, r2) := by rw [if_pos rfl] at H; exact H
          clear H
          have H := H1
          clear H1
          replace H := Option.bind_eq_some_iff.mp H
          obtain ⟨t444, A350, H⟩ := H
          replace H : (some (t444, 5)) = some (r1, r2) := H
          have A35 := Aside0.mk A350
          clear A350
          simp only [Option.some.injEq, Prod.mk.injEq] at H
          obtain ⟨rfl, rfl⟩ := H
          have p29 : 0 ≤ (0 : Int) := (by omega)
          have q29 : 0 < t436.size := (by have : (0 : Int) < (t436.size : Int) := of_decide_eq_true (by first | (with_reducible assumption) | assumption); omega)
          have hx29 : ∀ h : 0 < t436.size, ((t436[0]'h).toNat : Int) = bt t436 0 := bt_at t436 0
          clear p29
          have qi29 : (0 < (t436.size : Int)) = True := eq_true (of_decide_eq_true (by first | (with_reducible assumption) | assumption))
          replace q29 := eq_true q29
          have p31 : 0 ≤ (0 : Int) := (by omega)
          have q31 : 0 < t436.size := (by have : (0 : Int) < (t436.size : Int) := of_decide_eq_true (by first | (with_reducible assumption) | assumption); omega)
          have hx31 : ∀ h : 0 < t436.size, ((t436[0]'h).toNat : Int) = bt t436 0 := bt_at t436 0
          clear p31
          have qi31 : (0 < (t436.size : Int)) = True := eq_true (of_decide_eq_true (by first | (with_reducible assumption) | assumption))
          replace q31 := eq_true q31
          go_wp2_with (first | (go_at_call 39; (try (rename_i hK_; simp only [List.append] at hK_)); (with_reducible refine (targumref6_bare.calls kj2 t436 10 t442 true _ A33.out).mono ?_); rintro e w36 ⟨rfl, hb⟩; have n0_ := Aside0.mk (below_step bl hb); clear HB; have HB := n0_; clear n0_; (try clear hb); (try clear hb2); (try clear hk); (try clear hi)) | (go_at_call 18; (try (rename_i hK_; simp only [List.append] at hK_)); (with_reducible refine (targumref4_Norm.calls kj2 t437 t442 t444 _ A35.out).mono ?_); rintro e w' ⟨rfl, ⟨nd, rfl⟩⟩; (try first | exact ⟨rfl, _, World.drewN_drewN _ _ _⟩ | exact ⟨rfl, _, Eq.trans (World.drewN_drewN _ _ _) (congrArg (World.drewN _) (Nat.add_assoc _ _ _))⟩)))
          repeat (go_quiet (first | (go_at_call 39; (try (rename_i hK_; simp only [List.append] at hK_)); (with_reducible refine (targumref6_bare.calls kj2 t436 10 t442 true _ A33.out).mono ?_); rintro e w36 ⟨rfl, hb⟩; have n0_ := Aside0.mk (below_step bl hb); clear HB; have HB := n0_; clear n0_; (try clear hb); (try clear hb2); (try clear hk); (try clear hi)) | (go_at_call 18; (try (rename_i hK_; simp only [List.append] at hK_)); (with_reducible refine (targumref4_Norm.calls kj2 t437 t442 t444 _ A35.out).mono ?_); rintro e w' ⟨rfl, ⟨nd, rfl⟩⟩; (try first | exact ⟨rfl, _, World.drewN_drewN _ _ _⟩ | exact ⟨rfl, _, Eq.trans (World.drewN_drewN _ _ _) (congrArg (World.drewN _) (Nat.add_assoc _ _ _))⟩))); try go_wp2_with (first | (go_at_call 39; (try (rename_i hK_; simp only [List.append] at hK_)); (with_reducible refine (targumref6_bare.calls kj2 t436 10 t442 true _ A33.out).mono ?_); rintro e w36 ⟨rfl, hb⟩; have n0_ := Aside0.mk (below_step bl hb); clear HB; have HB := n0_; clear n0_; (try clear hb); (try clear hb2); (try clear hk); (try clear hi)) | (go_at_call 18; (try (rename_i hK_; simp only [List.append] at hK_)); (with_reducible refine (targumref4_Norm.calls kj2 t437 t442 t444 _ A35.out).mono ?_); rintro e w' ⟨rfl, ⟨nd, rfl⟩⟩; (try first | exact ⟨rfl, _, World.drewN_drewN _ _ _⟩ | exact ⟨rfl, _, Eq.trans (World.drewN_drewN _ _ _) (congrArg (World.drewN _) (Nat.add_assoc _ _ _))⟩))))
          go_ret2
          exact ⟨by first | rfl | (simp [errW_none, errW_some] <;> rfl) | (simp [*, errW_none, errW_some] <;> rfl) | ((generalize ByteArray.toList _ = z_); cases z_ <;> first | rfl | (simp; done)), bl⟩
         ·replace c34 := Bool.eq_false_iff.mpr c34
          subst c34
          have H1 : ((targumref6_sixty.f kj2 t436).bind fun bt445 => (if bt445.2 = true then ((targumref4_Norm.f kj2 t437 bt445.1).bind fun t447 => (some (t447, 6))) else (some ((⟨#[]⟩ : ByteArray), 0)))) = some (r1, r2) := by rw [if_neg (show ¬ (false = true) by decide)] at H; exact H
          clear H
          have H := H1
          clear H1
          replace H := Option.bind_eq_some_iff.mp H
          obtain ⟨⟨t445, t446⟩, A370, H⟩ := H
          replace H : (if t446 = true then ((targumref4_Norm.f kj2 t437 t445).bind fun t447 => (some (t447, 6))) else (some ((⟨#[]⟩ : ByteArray), 0))) = some (r1, r2) := H
          have A37 := Aside0.mk A370
          clear A370
          by_cases c38 : t446 = true
          ·subst c38
           have H1 : ((targumref4_Norm.f kj2 t437 t445).bind fun t447 => (some (t447, 6))) = some (r1, r2) := by rw [if_pos rfl] at H; exact H
           clear H
           have H := H1
           clear H1
           replace H := Option.bind_eq_some_iff.mp H
           obtain ⟨t447, A390, H⟩ := H
           replace H : (some (t447, 6)) = some (r1, r2) := H
           have A39 := Aside0.mk A390
           clear A390
           simp only [Option.some.injEq, Prod.mk.injEq] at H
           obtain ⟨rfl, rfl⟩ := H
           have p29 : 0 ≤ (0 : Int) := (by omega)
           have q29 : 0 < t436.size := (by have : (0 : Int) < (t436.size : Int) := of_decide_eq_true (by first | (with_reducible assumption) | assumption); omega)
           have hx29 : ∀ h : 0 < t436.size, ((t436[0]'h).toNat : Int) = bt t436 0 := bt_at t436 0
           clear p29
           have qi29 : (0 < (t436.size : Int)) = True := eq_true (of_decide_eq_true (by first | (with_reducible assumption) | assumption))
           replace q29 := eq_true q29
           have p31 : 0 ≤ (0 : Int) := (by omega)
           have q31 : 0 < t436.size := (by have : (0 : Int) < (t436.size : Int) := of_decide_eq_true (by first | (with_reducible assumption) | assumption); omega)
           have hx31 : ∀ h : 0 < t436.size, ((t436[0]'h).toNat : Int) = bt t436 0 := bt_at t436 0
           clear p31
           have qi31 : (0 < (t436.size : Int)) = True := eq_true (of_decide_eq_true (by first | (with_reducible assumption) | assumption))
           replace q31 := eq_true q31
           go_wp2_with (first | (go_at_call 39; (try (rename_i hK_; simp only [List.append] at hK_)); (with_reducible refine (targumref6_bare.calls kj2 t436 10 t442 false _ A33.out).mono ?_); rintro e w40 ⟨rfl, hb⟩; have n0_ := Aside0.mk (below_step bl hb); clear HB; have HB := n0_; clear n0_; (try clear hb); (try clear hb2); (try clear hk); (try clear hi)) | (go_at_call 40; (try (rename_i hK_; simp only [List.append] at hK_)); (with_reducible refine (targumref6_sixty.calls kj2 t436 t445 true _ A37.out).mono ?_); rintro e w41 ⟨rfl, hb⟩; have n0_ := Aside0.mk (below_step bl hb); clear HB; have HB := n0_; clear n0_; (try clear hb); (try clear hb2); (try clear hk); (try clear hi)) | (go_at_call 18; (try (rename_i hK_; simp only [List.append] at hK_)); (with_reducible refine (targumref4_Norm.calls kj2 t437 t445 t447 _ A39.out).mono ?_); rintro e w' ⟨rfl, ⟨nd, rfl⟩⟩; (try first | exact ⟨rfl, _, World.drewN_drewN _ _ _⟩ | exact ⟨rfl, _, Eq.trans (World.drewN_drewN _ _ _) (congrArg (World.drewN _) (Nat.add_assoc _ _ _))⟩)))
           repeat (go_quiet (first | (go_at_call 39; (try (rename_i hK_; simp only [List.append] at hK_)); (with_reducible refine (targumref6_bare.calls kj2 t436 10 t442 false _ A33.out).mono ?_); rintro e w40 ⟨rfl, hb⟩; have n0_ := Aside0.mk (below_step bl hb); clear HB; have HB := n0_; clear n0_; (try clear hb); (try clear hb2); (try clear hk); (try clear hi)) | (go_at_call 40; (try (rename_i hK_; simp only [List.append] at hK_)); (with_reducible refine (targumref6_sixty.calls kj2 t436 t445 true _ A37.out).mono ?_); rintro e w41 ⟨rfl, hb⟩; have n0_ := Aside0.mk (below_step bl hb); clear HB; have HB := n0_; clear n0_; (try clear hb); (try clear hb2); (try clear hk); (try clear hi)) | (go_at_call 18; (try (rename_i hK_; simp only [List.append] at hK_)); (with_reducible refine (targumref4_Norm.calls kj2 t437 t445 t447 _ A39.out).mono ?_); rintro e w' ⟨rfl, ⟨nd, rfl⟩⟩; (try first | exact ⟨rfl, _, World.drewN_drewN _ _ _⟩ | exact ⟨rfl, _, Eq.trans (World.drewN_drewN _ _ _) (congrArg (World.drewN _) (Nat.add_assoc _ _ _))⟩))); try go_wp2_with (first | (go_at_call 39; (try (rename_i hK_; simp only [List.append] at hK_)); (with_reducible refine (targumref6_bare.calls kj2 t436 10 t442 false _ A33.out).mono ?_); rintro e w40 ⟨rfl, hb⟩; have n0_ := Aside0.mk (below_step bl hb); clear HB; have HB := n0_; clear n0_; (try clear hb); (try clear hb2); (try clear hk); (try clear hi)) | (go_at_call 40; (try (rename_i hK_; simp only [List.append] at hK_)); (with_reducible refine (targumref6_sixty.calls kj2 t436 t445 true _ A37.out).mono ?_); rintro e w41 ⟨rfl, hb⟩; have n0_ := Aside0.mk (below_step bl hb); clear HB; have HB := n0_; clear n0_; (try clear hb); (try clear hb2); (try clear hk); (try clear hi)) | (go_at_call 18; (try (rename_i hK_; simp only [List.append] at hK_)); (with_reducible refine (targumref4_Norm.calls kj2 t437 t445 t447 _ A39.out).mono ?_); rintro e w' ⟨rfl, ⟨nd, rfl⟩⟩; (try first | exact ⟨rfl, _, World.drewN_drewN _ _ _⟩ | exact ⟨rfl, _, Eq.trans (World.drewN_drewN _ _ _) (congrArg (World.drewN _) (Nat.add_assoc _ _ _))⟩))))
           go_ret2
           exact ⟨by first | rfl | (simp [errW_none, errW_some] <;> rfl) | (simp [*, errW_none, errW_some] <;> rfl) | ((generalize ByteArray.toList _ = z_); cases z_ <;> first | rfl | (simp; done)), bl⟩
          ·replace c38 := Bool.eq_false_iff.mpr c38
           subst c38
           have H1 : (some ((⟨#[]⟩ : ByteArray), 0)) = some (r1, r2) := by rw [if_neg (show ¬ (false = true) by decide)] at H; exact H
           clear H
           have H := H1
           clear H1
           simp only [Option.some.injEq, Prod.mk.injEq] at H
           obtain ⟨rfl, rfl⟩ := H
           have p29 : 0 ≤ (0 : Int) := (by omega)
           have q29 : 0 < t436.size := (by have : (0 : Int) < (t436.size : Int) := of_decide_eq_true (by first | (with_reducible assumption) | assumption); omega)
           have hx29 : ∀ h : 0 < t436.size, ((t436[0]'h).toNat : Int) = bt t436 0 := bt_at t436 0
           clear p29
           have qi29 : (0 < (t436.size : Int)) = True := eq_true (of_decide_eq_true (by first | (with_reducible assumption) | assumption))
           replace q29 := eq_true q29
           have p31 : 0 ≤ (0 : Int) := (by omega)
           have q31 : 0 < t436.size := (by have : (0 : Int) < (t436.size : Int) := of_decide_eq_true (by first | (with_reducible assumption) | assumption); omega)
           have hx31 : ∀ h : 0 < t436.size, ((t436[0]'h).toNat : Int) = bt t436 0 := bt_at t436 0
           clear p31
           have qi31 : (0 < (t436.size : Int)) = True := eq_true (of_decide_eq_true (by first | (with_reducible assumption) | assumption))
           replace q31 := eq_true q31
           go_wp2_with (first | (go_at_call 39; (try (rename_i hK_; simp only [List.append] at hK_)); (with_reducible refine (targumref6_bare.calls kj2 t436 10 t442 false _ A33.out).mono ?_); rintro e w42 ⟨rfl, hb⟩; have n0_ := Aside0.mk (below_step bl hb); clear HB; have HB := n0_; clear n0_; (try clear hb); (try clear hb2); (try clear hk); (try clear hi)) | (go_at_call 40; (try (rename_i hK_; simp only [List.append] at hK_)); (with_reducible refine (targumref6_sixty.calls kj2 t436 t445 false _ A37.out).mono ?_); rintro e w43 ⟨rfl, hb⟩; have n0_ := Aside0.mk (below_step bl hb); clear HB; have HB := n0_; clear n0_; (try clear hb); (try clear hb2); (try clear hk); (try clear hi)))
           repeat (go_quiet (first | (go_at_call 39; (try (rename_i hK_; simp only [List.append] at hK_)); (with_reducible refine (targumref6_bare.calls kj2 t436 10 t442 false _ A33.out).mono ?_); rintro e w42 ⟨rfl, hb⟩; have n0_ := Aside0.mk (below_step bl hb); clear HB; have HB := n0_; clear n0_; (try clear hb); (try clear hb2); (try clear hk); (try clear hi)) | (go_at_call 40; (try (rename_i hK_; simp only [List.append] at hK_)); (with_reducible refine (targumref6_sixty.calls kj2 t436 t445 false _ A37.out).mono ?_); rintro e w43 ⟨rfl, hb⟩; have n0_ := Aside0.mk (below_step bl hb); clear HB; have HB := n0_; clear n0_; (try clear hb); (try clear hb2); (try clear hk); (try clear hi))); try go_wp2_with (first | (go_at_call 39; (try (rename_i hK_; simp only [List.append] at hK_)); (with_reducible refine (targumref6_bare.calls kj2 t436 10 t442 false _ A33.out).mono ?_); rintro e w42 ⟨rfl, hb⟩; have n0_ := Aside0.mk (below_step bl hb); clear HB; have HB := n0_; clear n0_; (try clear hb); (try clear hb2); (try clear hk); (try clear hi)) | (go_at_call 40; (try (rename_i hK_; simp only [List.append] at hK_)); (with_reducible refine (targumref6_sixty.calls kj2 t436 t445 false _ A37.out).mono ?_); rintro e w43 ⟨rfl, hb⟩; have n0_ := Aside0.mk (below_step bl hb); clear HB; have HB := n0_; clear n0_; (try clear hb); (try clear hb2); (try clear hk); (try clear hi))))
           go_ret2
           exact ⟨by first | rfl | (simp [errW_none, errW_some] <;> rfl) | (simp [*, errW_none, errW_some] <;> rfl) | ((generalize ByteArray.toList _ = z_); cases z_ <;> first | rfl | (simp; done)), bl⟩
      ·rw [if_neg c28] at H
       exact absurd H (by simp)

end Go.Proofs.YtbjlcipamdgnjaaDoor.PN
