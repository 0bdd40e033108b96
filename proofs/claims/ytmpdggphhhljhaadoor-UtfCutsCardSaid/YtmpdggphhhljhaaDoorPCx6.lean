/- Written by this session's own program (xprint, made over the kit's print): Lean functions with the same answers as the Go functions, and the proofs of that. Not trusted: Lean checks it. -/
import Derived.Test.YtmpdggphhhljhaaDoorPCx0
import Derived.Test.YtmpdggphhhljhaaDoorPCx5
namespace Go.Proofs.YtmpdggphhhljhaaDoor.PC
open Go.RowKit Go.Proofs.YtmpdggphhhljhaaDoorW.PrintWords Go.Proofs.YtmpdggphhhljhaaDoorW.PrintLast Go.Proofs.YtmpdggphhhljhaaDoorW.PrintMore
attribute [local go_sem] max2_int min2_int max_two min_two max_three min_three max_four min_four   -- for this text's walks alone
set_option linter.unusedVariables false
set_option linter.unusedSimpArgs false

/-! ### targumref1_Next: function 34 -/
mutual
def targumref1_Next.j0 : Nat → ByteArray → Int → Bool → Option (Int × Int)
 | 0, _, _, _ => none
 | k + 1, x0, x1, x17 => if x17 = true then (some (0, 0)) else (if 0 ≤ x1 then (if x1 < (x0.size : Int) then (if (wrap64 (bt x0 x1)) < 128 then (some (wrap64 (bt x0 x1), 1)) else (if (wrap64 (bt x0 x1)) ≥ 192 then (targumref1_Next.j1 k x0 x1 (wrap64 (bt x0 x1)) (decide ((wrap64 (bt x0 x1)) < 224))) else (targumref1_Next.j1 k x0 x1 (wrap64 (bt x0 x1)) false))) else (none)) else (none))
def targumref1_Next.j3 : Nat → ByteArray → Int → Int → Int → Int → Option (Int × Int)
 | 0, _, _, _, _, _ => none
 | k + 1, x0, x1, x6, x7, x8 => targumref1_Next.l0 k x0 x1 x6 x7 x8 1
def targumref1_Next.l0 : Nat → ByteArray → Int → Int → Int → Int → Int → Option (Int × Int)
 | 0, _, _, _, _, _, _ => none
 | k + 1, x0, x1, x6, x7, x8, x9 => if x9 < x7 then (if x7 > (wrap64 ((x0.size : Int) - x1)) then (some (0, 0)) else (if 0 ≤ (wrap64 (x1 + x9)) then (if (wrap64 (x1 + x9)) < (x0.size : Int) then (if (bt x0 (wrap64 (x1 + x9))) < 128 then (some (0, 0)) else (if (bt x0 (wrap64 (x1 + x9))) ≥ 192 then (some (0, 0)) else (targumref1_Next.l0 k x0 x1 (wrap64 ((wrap64 ((wrap64 (x6 * 64)) + (wrap64 (bt x0 (wrap64 (x1 + x9)))))) - 128)) x7 x8 (wrap64 (x9 + 1))))) else (none)) else (none))) else (if x6 < x8 then (some (0, 0)) else ((targumref1_IsScalar.f x6).bind fun t197 => (if t197 = true then (some (x6, x7)) else (some (0, 0)))))
def targumref1_Next.j1 : Nat → ByteArray → Int → Int → Bool → Option (Int × Int)
 | 0, _, _, _, _ => none
 | k + 1, x0, x1, x6, x26 => if x26 = true then (targumref1_Next.j3 k x0 x1 (wrap64 (x6 - 192)) 2 128) else (if x6 ≥ 224 then (targumref1_Next.j2 k x0 x1 x6 (decide (x6 < 240))) else (targumref1_Next.j2 k x0 x1 x6 false))
def targumref1_Next.j2 : Nat → ByteArray → Int → Int → Bool → Option (Int × Int)
 | 0, _, _, _, _ => none
 | k + 1, x0, x1, x6, x35 => if x35 = true then (targumref1_Next.j3 k x0 x1 (wrap64 (x6 - 224)) 3 2048) else (if x6 ≥ 240 then (if x6 < 248 then (targumref1_Next.j3 k x0 x1 (wrap64 (x6 - 240)) 4 65536) else (some (0, 0))) else (some (0, 0)))
end
def targumref1_Next.f (k : Nat) (a0 : ByteArray) (a1 : Int) : Option (Int × Int) := if a1 < 0 then (targumref1_Next.j0 k a0 a1 true) else (targumref1_Next.j0 k a0 a1 (decide (a1 ≥ (a0.size : Int))))
theorem targumref1_Next.mono_l : ∀ k, (∀ y0 y1 y2, LeO (targumref1_Next.j0 k y0 y1 y2) (targumref1_Next.j0 (k + 1) y0 y1 y2)) ∧ (∀ y0 y1 y2 y3 y4, LeO (targumref1_Next.j3 k y0 y1 y2 y3 y4) (targumref1_Next.j3 (k + 1) y0 y1 y2 y3 y4)) ∧ (∀ y0 y1 y2 y3 y4 y5, LeO (targumref1_Next.l0 k y0 y1 y2 y3 y4 y5) (targumref1_Next.l0 (k + 1) y0 y1 y2 y3 y4 y5)) ∧ (∀ y0 y1 y2 y3, LeO (targumref1_Next.j1 k y0 y1 y2 y3) (targumref1_Next.j1 (k + 1) y0 y1 y2 y3)) ∧ (∀ y0 y1 y2 y3, LeO (targumref1_Next.j2 k y0 y1 y2 y3) (targumref1_Next.j2 (k + 1) y0 y1 y2 y3))
 | 0 => ⟨fun _ _ _ r h => by simp [targumref1_Next.j0] at h, fun _ _ _ _ _ r h => by simp [targumref1_Next.j3] at h, fun _ _ _ _ _ _ r h => by simp [targumref1_Next.l0] at h, fun _ _ _ _ r h => by simp [targumref1_Next.j1] at h, fun _ _ _ _ r h => by simp [targumref1_Next.j2] at h⟩
 | k + 1 => by
  obtain ⟨ih0, ih1, ih2, ih3, ih4⟩ := targumref1_Next.mono_l k
  refine ⟨?_, ?_, ?_, ?_, ?_⟩
  ·intro y0 y1 y2
   unfold targumref1_Next.j0
   repeat' first
   | (with_reducible exact ih0 _ _ _)
   | (with_reducible exact ih1 _ _ _ _ _)
   | (with_reducible exact ih2 _ _ _ _ _ _)
   | (with_reducible exact ih3 _ _ _ _)
   | (with_reducible exact ih4 _ _ _ _)
   | (with_reducible exact LeO.refl _)
   | (with_reducible exact LeO.none _)
   | (with_reducible refine LeO.ite ?_ ?_)
   | (with_reducible refine LeO.bind ?_ (fun _ => ?_))
   | exact ih0 _ _ _
   | exact ih1 _ _ _ _ _
   | exact ih2 _ _ _ _ _ _
   | exact ih3 _ _ _ _
   | exact ih4 _ _ _ _
   | exact LeO.none _
   | refine LeO.ite ?_ ?_
   | refine LeO.bind ?_ (fun _ => ?_)
  ·intro y0 y1 y2 y3 y4
   unfold targumref1_Next.j3
   repeat' first
   | (with_reducible exact ih0 _ _ _)
   | (with_reducible exact ih1 _ _ _ _ _)
   | (with_reducible exact ih2 _ _ _ _ _ _)
   | (with_reducible exact ih3 _ _ _ _)
   | (with_reducible exact ih4 _ _ _ _)
   | (with_reducible exact LeO.refl _)
   | (with_reducible exact LeO.none _)
   | (with_reducible refine LeO.ite ?_ ?_)
   | (with_reducible refine LeO.bind ?_ (fun _ => ?_))
   | exact ih0 _ _ _
   | exact ih1 _ _ _ _ _
   | exact ih2 _ _ _ _ _ _
   | exact ih3 _ _ _ _
   | exact ih4 _ _ _ _
   | exact LeO.none _
   | refine LeO.ite ?_ ?_
   | refine LeO.bind ?_ (fun _ => ?_)
  ·intro y0 y1 y2 y3 y4 y5
   unfold targumref1_Next.l0
   repeat' first
   | (with_reducible exact ih0 _ _ _)
   | (with_reducible exact ih1 _ _ _ _ _)
   | (with_reducible exact ih2 _ _ _ _ _ _)
   | (with_reducible exact ih3 _ _ _ _)
   | (with_reducible exact ih4 _ _ _ _)
   | (with_reducible exact LeO.refl _)
   | (with_reducible exact LeO.none _)
   | (with_reducible refine LeO.ite ?_ ?_)
   | (with_reducible refine LeO.bind ?_ (fun _ => ?_))
   | exact ih0 _ _ _
   | exact ih1 _ _ _ _ _
   | exact ih2 _ _ _ _ _ _
   | exact ih3 _ _ _ _
   | exact ih4 _ _ _ _
   | exact LeO.none _
   | refine LeO.ite ?_ ?_
   | refine LeO.bind ?_ (fun _ => ?_)
  ·intro y0 y1 y2 y3
   unfold targumref1_Next.j1
   repeat' first
   | (with_reducible exact ih0 _ _ _)
   | (with_reducible exact ih1 _ _ _ _ _)
   | (with_reducible exact ih2 _ _ _ _ _ _)
   | (with_reducible exact ih3 _ _ _ _)
   | (with_reducible exact ih4 _ _ _ _)
   | (with_reducible exact LeO.refl _)
   | (with_reducible exact LeO.none _)
   | (with_reducible refine LeO.ite ?_ ?_)
   | (with_reducible refine LeO.bind ?_ (fun _ => ?_))
   | exact ih0 _ _ _
   | exact ih1 _ _ _ _ _
   | exact ih2 _ _ _ _ _ _
   | exact ih3 _ _ _ _
   | exact ih4 _ _ _ _
   | exact LeO.none _
   | refine LeO.ite ?_ ?_
   | refine LeO.bind ?_ (fun _ => ?_)
  ·intro y0 y1 y2 y3
   unfold targumref1_Next.j2
   repeat' first
   | (with_reducible exact ih0 _ _ _)
   | (with_reducible exact ih1 _ _ _ _ _)
   | (with_reducible exact ih2 _ _ _ _ _ _)
   | (with_reducible exact ih3 _ _ _ _)
   | (with_reducible exact ih4 _ _ _ _)
   | (with_reducible exact LeO.refl _)
   | (with_reducible exact LeO.none _)
   | (with_reducible refine LeO.ite ?_ ?_)
   | (with_reducible refine LeO.bind ?_ (fun _ => ?_))
   | exact ih0 _ _ _
   | exact ih1 _ _ _ _ _
   | exact ih2 _ _ _ _ _ _
   | exact ih3 _ _ _ _
   | exact ih4 _ _ _ _
   | exact LeO.none _
   | refine LeO.ite ?_ ?_
   | refine LeO.bind ?_ (fun _ => ?_)
theorem targumref1_Next.mono : ∀ a0 a1 k, LeO (targumref1_Next.f k a0 a1) (targumref1_Next.f (k + 1) a0 a1) := by
 intro a0 a1 k
 obtain ⟨ih0, ih1, ih2, ih3, ih4⟩ := targumref1_Next.mono_l k
 unfold targumref1_Next.f
 repeat' first
   | (with_reducible exact ih0 _ _ _)
   | (with_reducible exact ih1 _ _ _ _ _)
   | (with_reducible exact ih2 _ _ _ _ _ _)
   | (with_reducible exact ih3 _ _ _ _)
   | (with_reducible exact ih4 _ _ _ _)
   | (with_reducible exact LeO.refl _)
   | (with_reducible exact LeO.none _)
   | (with_reducible refine LeO.ite ?_ ?_)
   | (with_reducible refine LeO.bind ?_ (fun _ => ?_))
   | exact ih0 _ _ _
   | exact ih1 _ _ _ _ _
   | exact ih2 _ _ _ _ _ _
   | exact ih3 _ _ _ _
   | exact ih4 _ _ _ _
   | exact LeO.none _
   | refine LeO.ite ?_ ?_
   | refine LeO.bind ?_ (fun _ => ?_)
set_option maxHeartbeats 8000000 in
set_option maxRecDepth 100000 in
theorem targumref1_Next.calls (k : Nat) (a0 : ByteArray) (a1 : Int) (r1 : Int) (r2 : Int) (w : World) (h : targumref1_Next.f k a0 a1 = some (r1, r2)) :
  Calls Tryd.prog 34 #[.string a0, .int .i64 a1] w fun e w' => e = .returned (.tuple #[.int .i64 r1, .int .i64 r2]) ∧ Drawn0 w w' := by
 have H : (if a1 < 0 then (targumref1_Next.j0 k a0 a1 true) else (targumref1_Next.j0 k a0 a1 (decide (a1 ≥ (a0.size : Int))))) = some (r1, r2) := h
 clear h
 have HC3 := Aside0.mk H
 clear H
 go_enter Tryd.func34, Tryd.ntmps34
 go_upto_region 1 with (fail)
 go_cut [17] (fun v17 wc => ∃ (kq : Nat) (x17_2 : Bool), v17 = .bool x17_2 ∧ Aside0 (targumref1_Next.j0 kq a0 a1 x17_2 = some (r1, r2)) ∧ Aside0 (kq ≤ k) ∧ Drawn0 w wc)
 case first =>
  have H := HC3.out
  clear HC3
  by_cases c4 : a1 < 0
  ·rw [if_pos c4] at H
   have c4b0 : decide (a1 < 0) = true := decide_eq_true c4
   clear c4
   (first | rw [c4b0] | (simp only [i64_w, i32_w]; rw [c4b0]) | skip)
   have H' := Aside0.mk H
   clear H
   go_wp2
   go_meet
   case rel => exact ⟨_, (true), (by first | rfl | (simp; done) | (simp [*]; done) | (simp [wrap64]; done)), H', ⟨by first | omega | exact Nat.le_refl _⟩, by repeat (first | exact Drawn0.refl _ | apply Drawn0.step)⟩
  ·rw [if_neg c4] at H
   have c4b0 : decide (a1 < 0) = false := decide_eq_false c4
   clear c4
   (first | rw [c4b0] | (simp only [i64_w, i32_w]; rw [c4b0]) | skip)
   have H' := Aside0.mk H
   clear H
   go_wp2
   go_meet
   case rel => exact ⟨_, (decide (a1 ≥ (a0.size : Int))), (by first | rfl | (simp; done) | (simp [*]; done) | (simp [wrap64]; done)), H', ⟨by first | omega | exact Nat.le_refl _⟩, by repeat (first | exact Drawn0.refl _ | apply Drawn0.step)⟩
 case rest =>
  clear HC3
  try clear p2; try clear c3; try clear c4; try clear c4b0
  obtain ⟨kq, x17_2, rfl, HA, HJ2, ⟨mc2, rfl⟩⟩ := hcut
  cases kq with
  | zero => exact absurd HA.out (by simp [targumref1_Next.j0])
  | succ kj2 =>
   have H := HA.out
   clear HA
   simp only [targumref1_Next.j0] at H
   by_cases c5 : x17_2 = true
   ·subst c5
    have H1 : (some (0, 0)) = some (r1, r2) := by rw [if_pos rfl] at H; exact H
    clear H
    have H := H1
    clear H1
    simp only [Option.some.injEq, Prod.mk.injEq] at H
    obtain ⟨rfl, rfl⟩ := H
    go_wp2
    go_ret2
    exact ⟨by first | rfl | (simp; done) | (simp [*]; done) | (simp [wrap64]; done), by repeat (first | exact Drawn0.refl _ | apply Drawn0.step)⟩
   ·replace c5 := Bool.eq_false_iff.mpr c5
    subst c5
    have H1 : (if 0 ≤ a1 then (if a1 < (a0.size : Int) then (if (wrap64 (bt a0 a1)) < 128 then (some (wrap64 (bt a0 a1), 1)) else (if (wrap64 (bt a0 a1)) ≥ 192 then (targumref1_Next.j1 kj2 a0 a1 (wrap64 (bt a0 a1)) (decide ((wrap64 (bt a0 a1)) < 224))) else (targumref1_Next.j1 kj2 a0 a1 (wrap64 (bt a0 a1)) false))) else (none)) else (none)) = some (r1, r2) := by rw [if_neg (show ¬ (false = true) by decide)] at H; exact H
    clear H
    have H := H1
    clear H1
    by_cases c6 : 0 ≤ a1
    ·rw [if_pos c6] at H
     have c6b0 : decide (0 ≤ a1) = true := decide_eq_true c6
     clear c6
     by_cases c7 : a1 < (a0.size : Int)
     ·rw [if_pos c7] at H
      have c7b0 : decide (a1 < (a0.size : Int)) = true := decide_eq_true c7
      clear c7
      have HC9 := Aside0.mk H
      clear H
      have p8 : 0 ≤ (a1 : Int) := of_decide_eq_true (by first | (with_reducible assumption) | assumption)
      have q8 : a1 < (a0.size : Int) := of_decide_eq_true (by first | (with_reducible assumption) | assumption)
      have hx8 := bt_at a0 a1
      replace p8 := eq_true p8
      replace q8 := eq_true q8
      go_upto_block 0 with (fail)
      go_cut [6, 7, 8] (fun v6 v7 v8 wc => ∃ (kq : Nat) (x6_8 : Int) (x7_8 : Int) (x8_8 : Int), v6 = .int .i64 x6_8 ∧ v7 = .int .i64 x7_8 ∧ v8 = .int .i64 x8_8 ∧ Aside0 (targumref1_Next.j3 kq a0 a1 x6_8 x7_8 x8_8 = some (r1, r2)) ∧ Aside0 (kq ≤ kj2) ∧ Drawn0 w wc)
      case first =>
       have H := HC9.out
       clear HC9
       by_cases c10 : (wrap64 (bt a0 a1)) < 128
       ·rw [if_pos c10] at H
        have c10b0 : decide ((wrap64 (bt a0 a1)) < 128) = true := decide_eq_true c10
        clear c10
        (first | rw [c10b0] | (simp only [i64_w, i32_w]; rw [c10b0]) | skip)
        simp only [Option.some.injEq, Prod.mk.injEq] at H
        obtain ⟨rfl, rfl⟩ := H
        go_wp2
        go_ret2
        exact ⟨by first | rfl | (simp; done) | (simp [*]; done) | (simp [wrap64]; done), by repeat (first | exact Drawn0.refl _ | apply Drawn0.step)⟩
       ·rw [if_neg c10] at H
        have c10b0 : decide ((wrap64 (bt a0 a1)) < 128) = false := decide_eq_false c10
        clear c10
        (first | rw [c10b0] | (simp only [i64_w, i32_w]; rw [c10b0]) | skip)
        have HC11 := Aside0.mk H
        clear H
        go_upto_region 8 with (fail)
        go_cut [26] (fun v26 wc => ∃ (kq : Nat) (x26_10 : Bool), v26 = .bool x26_10 ∧ Aside0 (targumref1_Next.j1 kq a0 a1 (wrap64 (bt a0 a1)) x26_10 = some (r1, r2)) ∧ Aside0 (kq ≤ kj2) ∧ Drawn0 w wc)
        case first =>
         have H := HC11.out
         clear HC11
         by_cases c12 : (wrap64 (bt a0 a1)) ≥ 192
         ·rw [if_pos c12] at H
          have c12b0 : decide (192 ≤ (wrap64 (bt a0 a1))) = true := decide_eq_true c12
          clear c12
          (first | rw [c12b0] | (simp only [i64_w, i32_w]; rw [c12b0]) | skip)
          have H' := Aside0.mk H
          clear H
          go_wp2
          go_meet
          case rel => exact ⟨_, (decide ((wrap64 (bt a0 a1)) < 224)), (by first | rfl | (simp; done) | (simp [*]; done) | (simp [wrap64]; done)), H', ⟨by have := HJ2.out; first | omega | exact Nat.le_refl _⟩, by repeat (first | exact Drawn0.refl _ | apply Drawn0.step)⟩
         ·rw [if_neg c12] at H
          have c12b0 : decide (192 ≤ (wrap64 (bt a0 a1))) = false := decide_eq_false c12
          clear c12
          (first | rw [c12b0] | (simp only [i64_w, i32_w]; rw [c12b0]) | skip)
          have H' := Aside0.mk H
          clear H
          go_wp2
          go_meet
          case rel => exact ⟨_, (false), (by first | rfl | (simp; done) | (simp [*]; done) | (simp [wrap64]; done)), H', ⟨by have := HJ2.out; first | omega | exact Nat.le_refl _⟩, by repeat (first | exact Drawn0.refl _ | apply Drawn0.step)⟩
        case rest =>
         clear HC11
         try clear c1; try clear c2; try clear p2; try clear c3; try clear c4; try clear c4b0; try clear c5; try clear c6; try clear c6b0; try clear p6; try clear c7; try clear c7b0; try clear p8; try clear q8; try clear hx8; try clear c10; try clear c10b0; try clear c12; try clear c12b0; try clear p2; try clear p8; try clear q8
         obtain ⟨kq, x26_10, rfl, HA, HJ10, ⟨mc10, rfl⟩⟩ := hcut
         cases kq with
         | zero => exact absurd HA.out (by simp [targumref1_Next.j1])
         | succ kj10 =>
          have H := HA.out
          clear HA
          simp only [targumref1_Next.j1] at H
          by_cases c13 : x26_10 = true
          ·subst c13
           have H1 : (targumref1_Next.j3 kj10 a0 a1 (wrap64 ((wrap64 (bt a0 a1)) - 192)) 2 128) = some (r1, r2) := by rw [if_pos rfl] at H; exact H
           clear H
           have H := H1
           clear H1
           have H' := Aside0.mk H
           clear H
           go_wp2
           go_meet
           case rel => exact ⟨_, (wrap64 ((wrap64 (bt a0 a1)) - 192)), (2), (128), (by first | rfl | (simp; done) | (simp [*]; done) | (simp [wrap64]; done)), (by first | rfl | (simp; done) | (simp [*]; done) | (simp [wrap64]; done)), (by first | rfl | (simp; done) | (simp [*]; done) | (simp [wrap64]; done)), H', ⟨by have := HJ2.out; have := HJ10.out; first | omega | exact Nat.le_refl _⟩, by repeat (first | exact Drawn0.refl _ | apply Drawn0.step)⟩
          ·replace c13 := Bool.eq_false_iff.mpr c13
           subst c13
           have H1 : (if (wrap64 (bt a0 a1)) ≥ 224 then (targumref1_Next.j2 kj10 a0 a1 (wrap64 (bt a0 a1)) (decide ((wrap64 (bt a0 a1)) < 240))) else (targumref1_Next.j2 kj10 a0 a1 (wrap64 (bt a0 a1)) false)) = some (r1, r2) := by rw [if_neg (show ¬ (false = true) by decide)] at H; exact H
           clear H
           have H := H1
           clear H1
           have HC14 := Aside0.mk H
           clear H
           go_upto_region 10 with (fail)
           go_cut [35] (fun v35 wc => ∃ (kq : Nat) (x35_13 : Bool), v35 = .bool x35_13 ∧ Aside0 (targumref1_Next.j2 kq a0 a1 (wrap64 (bt a0 a1)) x35_13 = some (r1, r2)) ∧ Aside0 (kq ≤ kj10) ∧ Drawn0 w wc)
           case first =>
            have H := HC14.out
            clear HC14
            by_cases c15 : (wrap64 (bt a0 a1)) ≥ 224
            ·rw [if_pos c15] at H
             have c15b0 : decide (224 ≤ (wrap64 (bt a0 a1))) = true := decide_eq_true c15
             clear c15
             (first | rw [c15b0] | (simp only [i64_w, i32_w]; rw [c15b0]) | skip)
             have H' := Aside0.mk H
             clear H
             go_wp2
             go_meet
             case rel => exact ⟨_, (decide ((wrap64 (bt a0 a1)) < 240)), (by first | rfl | (simp; done) | (simp [*]; done) | (simp [wrap64]; done)), H', ⟨by have := HJ2.out; have := HJ10.out; first | omega | exact Nat.le_refl _⟩, by repeat (first | exact Drawn0.refl _ | apply Drawn0.step)⟩
            ·rw [if_neg c15] at H
             have c15b0 : decide (224 ≤ (wrap64 (bt a0 a1))) = false := decide_eq_false c15
             clear c15
             (first | rw [c15b0] | (simp only [i64_w, i32_w]; rw [c15b0]) | skip)
             have H' := Aside0.mk H
             clear H
             go_wp2
             go_meet
             case rel => exact ⟨_, (false), (by first | rfl | (simp; done) | (simp [*]; done) | (simp [wrap64]; done)), H', ⟨by have := HJ2.out; have := HJ10.out; first | omega | exact Nat.le_refl _⟩, by repeat (first | exact Drawn0.refl _ | apply Drawn0.step)⟩
           case rest =>
            clear HC14
            try clear c1; try clear c2; try clear p2; try clear c3; try clear c4; try clear c4b0; try clear c5; try clear c6; try clear c6b0; try clear p6; try clear c7; try clear c7b0; try clear p8; try clear q8; try clear hx8; try clear c10; try clear c10b0; try clear c12; try clear c12b0; try clear c13; try clear c15; try clear c15b0; try clear p2; try clear p6; try clear p8; try clear q8
            obtain ⟨kq, x35_13, rfl, HA, HJ13, ⟨mc13, rfl⟩⟩ := hcut
            cases kq with
            | zero => exact absurd HA.out (by simp [targumref1_Next.j2])
            | succ kj13 =>
             have H := HA.out
             clear HA
             simp only [targumref1_Next.j2] at H
             by_cases c16 : x35_13 = true
             ·subst c16
              have H1 : (targumref1_Next.j3 kj13 a0 a1 (wrap64 ((wrap64 (bt a0 a1)) - 224)) 3 2048) = some (r1, r2) := by rw [if_pos rfl] at H; exact H
              clear H
              have H := H1
              clear H1
              have H' := Aside0.mk H
              clear H
              go_wp2
              go_meet
              case rel => exact ⟨_, (wrap64 ((wrap64 (bt a0 a1)) - 224)), (3), (2048), (by first | rfl | (simp; done) | (simp [*]; done) | (simp [wrap64]; done)), (by first | rfl | (simp; done) | (simp [*]; done) | (simp [wrap64]; done)), (by first | rfl | (simp; done) | (simp [*]; done) | (simp [wrap64]; done)), H', ⟨by have := HJ2.out; have := HJ10.out; have := HJ13.out; first | omega | exact Nat.le_refl _⟩, by repeat (first | exact Drawn0.refl _ | apply Drawn0.step)⟩
             ·replace c16 := Bool.eq_false_iff.mpr c16
              subst c16
              have H1 : (if (wrap64 (bt a0 a1)) ≥ 240 then (if (wrap64 (bt a0 a1)) < 248 then (targumref1_Next.j3 kj13 a0 a1 (wrap64 ((wrap64 (bt a0 a1)) - 240)) 4 65536) else (some (0, 0))) else (some (0, 0))) = some (r1, r2) := by rw [if_neg (show ¬ (false = true) by decide)] at H; exact H
              clear H
              have H := H1
              clear H1
              by_cases c17 : (wrap64 (bt a0 a1)) ≥ 240
              ·rw [if_pos c17] at H
               have c17b0 : decide (240 ≤ (wrap64 (bt a0 a1))) = true := decide_eq_true c17
               clear c17
               by_cases c18 : (wrap64 (bt a0 a1)) < 248
               ·rw [if_pos c18] at H
                have c18b0 : decide ((wrap64 (bt a0 a1)) < 248) = true := decide_eq_true c18
                clear c18
                have H' := Aside0.mk H
                clear H
                go_wp2
                go_meet
                case rel => exact ⟨_, (wrap64 ((wrap64 (bt a0 a1)) - 240)), (4), (65536), (by first | rfl | (simp; done) | (simp [*]; done) | (simp [wrap64]; done)), (by first | rfl | (simp; done) | (simp [*]; done) | (simp [wrap64]; done)), (by first | rfl | (simp; done) | (simp [*]; done) | (simp [wrap64]; done)), H', ⟨by have := HJ2.out; have := HJ10.out; have := HJ13.out; first | omega | exact Nat.le_refl _⟩, by repeat (first | exact Drawn0.refl _ | apply Drawn0.step)⟩
               ·rw [if_neg c18] at H
                have c18b0 : decide ((wrap64 (bt a0 a1)) < 248) = false := decide_eq_false c18
                clear c18
                simp only [Option.some.injEq, Prod.mk.injEq] at H
                obtain ⟨rfl, rfl⟩ := H
                go_wp2
                go_ret2
                exact ⟨by first | rfl | (simp; done) | (simp [*]; done) | (simp [wrap64]; done), by repeat (first | exact Drawn0.refl _ | apply Drawn0.step)⟩
              ·rw [if_neg c17] at H
               have c17b0 : decide (240 ≤ (wrap64 (bt a0 a1))) = false := decide_eq_false c17
               clear c17
               simp only [Option.some.injEq, Prod.mk.injEq] at H
               obtain ⟨rfl, rfl⟩ := H
               go_wp2
               go_ret2
               exact ⟨by first | rfl | (simp; done) | (simp [*]; done) | (simp [wrap64]; done), by repeat (first | exact Drawn0.refl _ | apply Drawn0.step)⟩
      case rest =>
       clear HC9
       try clear c1; try clear c2; try clear p2; try clear c3; try clear c4; try clear c4b0; try clear c5; try clear c6; try clear c6b0; try clear p6; try clear c7; try clear c7b0; try clear p8; try clear q8; try clear hx8; try clear c10; try clear c10b0; try clear c12; try clear c12b0; try clear c13; try clear c15; try clear c15b0; try clear c16; try clear c17; try clear c17b0; try clear c18; try clear c18b0; try clear p2; try clear p6; try clear p8; try clear q8
       obtain ⟨kq, x6_8, x7_8, x8_8, rfl, rfl, rfl, HA, HJ8, ⟨mc8, rfl⟩⟩ := hcut
       cases kq with
       | zero => exact absurd HA.out (by simp [targumref1_Next.j3])
       | succ kj8 =>
        have H := HA.out
        clear HA
        simp only [targumref1_Next.j3] at H
        have H' := Aside0.mk H
        clear H
        go_wp2
        go_loopg [6, 9] kj8 (fun kq v6 v9 w' => ∃ (x6_3 : Int) (x9_3 : Int), v6 = .int .i64 x6_3 ∧ v9 = .int .i64 x9_3 ∧ Aside0 (targumref1_Next.l0 kq a0 a1 x6_3 x7_8 x8_8 x9_3 = some (r1, r2)) ∧ Aside0 (kq ≤ kj8) ∧ Drawn0 w w')
        case atStart => exact ⟨(x6_8), (1), (by first | rfl | (simp; done) | (simp [*]; done) | (simp [wrap64]; done)), (by first | rfl | (simp; done) | (simp [*]; done) | (simp [wrap64]; done)), H', ⟨Nat.le_refl _⟩, by repeat (first | exact Drawn0.refl _ | apply Drawn0.step)⟩
        case round =>
         clear H'
         try clear c1; try clear c2; try clear p2; try clear c3; try clear c4; try clear c4b0; try clear c5; try clear c6; try clear c6b0; try clear p6; try clear c7; try clear c7b0; try clear c8; try clear p8; try clear q8; try clear hx8; try clear c10; try clear c10b0; try clear c12; try clear c12b0; try clear c13; try clear c15; try clear c15b0; try clear c16; try clear c17; try clear c17b0; try clear c18; try clear c18b0; try clear p2; try clear p6; try clear p8; try clear q8
         obtain ⟨x6_3, x9_3, rfl, rfl, HA, HK3, ⟨m3, rfl⟩⟩ := hrel
         cases gk with
         | zero => exact absurd HA.out (by simp [targumref1_Next.l0])
         | succ k3 =>
          have H := HA.out
          clear HA
          simp only [targumref1_Next.l0] at H
          by_cases c19 : x9_3 < x7_8
          ·rw [if_pos c19] at H
           have c19b0 : decide (x9_3 < x7_8) = true := decide_eq_true c19
           clear c19
           by_cases c20 : x7_8 > (wrap64 ((a0.size : Int) - a1))
           ·rw [if_pos c20] at H
            have c20b0 : decide ((wrap64 ((a0.size : Int) - a1)) < x7_8) = true := decide_eq_true c20
            clear c20
            simp only [Option.some.injEq, Prod.mk.injEq] at H
            obtain ⟨rfl, rfl⟩ := H
            go_wp2
            go_ret2
            exact ⟨by first | rfl | (simp; done) | (simp [*]; done) | (simp [wrap64]; done), by repeat (first | exact Drawn0.refl _ | apply Drawn0.step)⟩
           ·rw [if_neg c20] at H
            have c20b0 : decide ((wrap64 ((a0.size : Int) - a1)) < x7_8) = false := decide_eq_false c20
            clear c20
            obtain ⟨ji21, hji21⟩ : ∃ j_ : Int, (wrap64 (a1 + x9_3)) = j_ := ⟨_, rfl⟩
            replace H : (if 0 ≤ (ji21) then (if (ji21) < (a0.size : Int) then (if (bt a0 (ji21)) < 128 then (some (0, 0)) else (if (bt a0 (ji21)) ≥ 192 then (some (0, 0)) else (targumref1_Next.l0 k3 a0 a1 (wrap64 ((wrap64 ((wrap64 (x6_3 * 64)) + (wrap64 (bt a0 (ji21))))) - 128)) x7_8 x8_8 (wrap64 (x9_3 + 1))))) else (none)) else (none)) = some (r1, r2) := by first | (rw [hji21] at H; exact H) | (simp only [hji21] at H ⊢; exact H)
            have hji21w : (IntKind.i64.wrap (a1 + x9_3)) = ji21 := (i64_w _).trans hji21
            by_cases c22 : 0 ≤ (ji21)
            ·rw [if_pos c22] at H
             have c22b0 : decide (0 ≤ (ji21)) = true := decide_eq_true c22
             clear c22
             by_cases c23 : (ji21) < (a0.size : Int)
             ·rw [if_pos c23] at H
              have c23b0 : decide ((ji21) < (a0.size : Int)) = true := decide_eq_true c23
              clear c23
              by_cases c25 : (bt a0 (ji21)) < 128
              ·rw [if_pos c25] at H
               have c25b0 : decide ((bt a0 (ji21)) < 128) = true := decide_eq_true c25
               clear c25
               simp only [Option.some.injEq, Prod.mk.injEq] at H
               obtain ⟨rfl, rfl⟩ := H
               have p24 : 0 ≤ ((ji21) : Int) := of_decide_eq_true (by first | (with_reducible assumption) | assumption)
               have q24 : (ji21) < (a0.size : Int) := of_decide_eq_true (by first | (with_reducible assumption) | assumption)
               have hx24 := bt_at a0 (ji21)
               replace p24 := eq_true p24
               replace q24 := eq_true q24
               go_wp2
               go_ret2
               exact ⟨by first | rfl | (simp; done) | (simp only [← hji21] <;> (first | rfl | simp)) | (simp [*]; done), by repeat (first | exact Drawn0.refl _ | apply Drawn0.step)⟩
              ·rw [if_neg c25] at H
               have c25b0 : decide ((bt a0 (ji21)) < 128) = false := decide_eq_false c25
               clear c25
               by_cases c27 : (bt a0 (ji21)) ≥ 192
               ·rw [if_pos c27] at H
                have c27b0 : decide (192 ≤ (bt a0 (ji21))) = true := decide_eq_true c27
                clear c27
                simp only [Option.some.injEq, Prod.mk.injEq] at H
                obtain ⟨rfl, rfl⟩ := H
                have p24 : 0 ≤ ((ji21) : Int) := of_decide_eq_true (by first | (with_reducible assumption) | assumption)
                have q24 : (ji21) < (a0.size : Int) := of_decide_eq_true (by first | (with_reducible assumption) | assumption)
                have hx24 := bt_at a0 (ji21)
                replace p24 := eq_true p24
                replace q24 := eq_true q24
                have p26 : 0 ≤ ((ji21) : Int) := of_decide_eq_true (by first | (with_reducible assumption) | assumption)
                have q26 : (ji21) < (a0.size : Int) := of_decide_eq_true (by first | (with_reducible assumption) | assumption)
                have hx26 := bt_at a0 (ji21)
                replace p26 := eq_true p26
                replace q26 := eq_true q26
                go_wp2
                go_ret2
                exact ⟨by first | rfl | (simp; done) | (simp only [← hji21] <;> (first | rfl | simp)) | (simp [*]; done), by repeat (first | exact Drawn0.refl _ | apply Drawn0.step)⟩
               ·rw [if_neg c27] at H
                have c27b0 : decide (192 ≤ (bt a0 (ji21))) = false := decide_eq_false c27
                clear c27
                have H' := Aside0.mk H
                clear H
                have p24 : 0 ≤ ((ji21) : Int) := of_decide_eq_true (by first | (with_reducible assumption) | assumption)
                have q24 : (ji21) < (a0.size : Int) := of_decide_eq_true (by first | (with_reducible assumption) | assumption)
                have hx24 := bt_at a0 (ji21)
                replace p24 := eq_true p24
                replace q24 := eq_true q24
                have p26 : 0 ≤ ((ji21) : Int) := of_decide_eq_true (by first | (with_reducible assumption) | assumption)
                have q26 : (ji21) < (a0.size : Int) := of_decide_eq_true (by first | (with_reducible assumption) | assumption)
                have hx26 := bt_at a0 (ji21)
                replace p26 := eq_true p26
                replace q26 := eq_true q26
                have p28 : 0 ≤ ((ji21) : Int) := of_decide_eq_true (by first | (with_reducible assumption) | assumption)
                have q28 : (ji21) < (a0.size : Int) := of_decide_eq_true (by first | (with_reducible assumption) | assumption)
                have hx28 := bt_at a0 (ji21)
                replace p28 := eq_true p28
                replace q28 := eq_true q28
                go_wp2
                go_roundg k3
                case measure => have := HJ2.out; have := HJ8.out; have := HK3.out; omega
                case rel => exact ⟨(wrap64 ((wrap64 ((wrap64 (x6_3 * 64)) + (wrap64 (bt a0 (ji21))))) - 128)), (wrap64 (x9_3 + 1)), (by first | rfl | (simp; done) | (simp only [← hji21] <;> (first | rfl | simp)) | (simp [*]; done)), (by first | rfl | (simp; done) | (simp [*]; done) | (simp [wrap64]; done)), H', ⟨by have := HJ2.out; have := HJ8.out; have := HK3.out; omega⟩, by repeat (first | exact Drawn0.refl _ | apply Drawn0.step)⟩
             ·rw [if_neg c23] at H
              exact absurd H (by simp)
            ·rw [if_neg c22] at H
             exact absurd H (by simp)
          ·rw [if_neg c19] at H
           have c19b0 : decide (x9_3 < x7_8) = false := decide_eq_false c19
           clear c19
           by_cases c29 : x6_3 < x8_8
           ·rw [if_pos c29] at H
            have c29b0 : decide (x6_3 < x8_8) = true := decide_eq_true c29
            clear c29
            simp only [Option.some.injEq, Prod.mk.injEq] at H
            obtain ⟨rfl, rfl⟩ := H
            go_wp2
            go_ret2
            exact ⟨by first | rfl | (simp; done) | (simp [*]; done) | (simp [wrap64]; done), by repeat (first | exact Drawn0.refl _ | apply Drawn0.step)⟩
           ·rw [if_neg c29] at H
            have c29b0 : decide (x6_3 < x8_8) = false := decide_eq_false c29
            clear c29
            replace H := Option.bind_eq_some_iff.mp H
            obtain ⟨t197, A300, H⟩ := H
            replace H : (if t197 = true then (some (x6_3, x7_8)) else (some (0, 0))) = some (r1, r2) := H
            have A30 := Aside0.mk A300
            clear A300
            by_cases c31 : t197 = true
            ·subst c31
             have H1 : (some (x6_3, x7_8)) = some (r1, r2) := by rw [if_pos rfl] at H; exact H
             clear H
             have H := H1
             clear H1
             simp only [Option.some.injEq, Prod.mk.injEq] at H
             obtain ⟨rfl, rfl⟩ := H
             go_wp2_with (first | (go_at_call 43; (try (rename_i hK_; simp only [List.append] at hK_)); (with_reducible refine (targumref1_IsScalar.calls x6_3 true _ A30.out).mono ?_); rintro e w' ⟨rfl, ⟨nd, rfl⟩⟩))
             go_ret2
             exact ⟨by first | rfl | (simp; done) | (simp [*]; done) | (simp [wrap64]; done), by repeat (first | exact Drawn0.refl _ | apply Drawn0.step)⟩
            ·replace c31 := Bool.eq_false_iff.mpr c31
             subst c31
             have H1 : (some (0, 0)) = some (r1, r2) := by rw [if_neg (show ¬ (false = true) by decide)] at H; exact H
             clear H
             have H := H1
             clear H1
             simp only [Option.some.injEq, Prod.mk.injEq] at H
             obtain ⟨rfl, rfl⟩ := H
             go_wp2_with (first | (go_at_call 43; (try (rename_i hK_; simp only [List.append] at hK_)); (with_reducible refine (targumref1_IsScalar.calls x6_3 false _ A30.out).mono ?_); rintro e w' ⟨rfl, ⟨nd, rfl⟩⟩))
             go_ret2
             exact ⟨by first | rfl | (simp; done) | (simp [*]; done) | (simp [wrap64]; done), by repeat (first | exact Drawn0.refl _ | apply Drawn0.step)⟩
     ·rw [if_neg c7] at H
      exact absurd H (by simp)
    ·rw [if_neg c6] at H
     exact absurd H (by simp)

/-! ### targumref1_May: function 46 -/
def targumref1_May.j0 : Nat → Int → Int → Bool → Option (Int)
 | 0, _, _, _ => none
 | k + 1, x5, x6, x13 => if x13 = true then (some x6) else (if x5 ≥ 160 then (if x5 ≤ 65533 then (if x5 = 65279 then (if x5 ≥ 65536 then (some x6) else (some 0)) else (some x6)) else (if x5 ≥ 65536 then (some x6) else (some 0))) else (if x5 ≥ 65536 then (some x6) else (some 0)))
def targumref1_May.f (k : Nat) (a0 : ByteArray) (a1 : Int) : Option (Int) := (targumref1_Next.f k a0 a1).bind fun bt198 => (if bt198.1 = 9 then (targumref1_May.j0 k bt198.1 bt198.2 true) else (if bt198.1 = 10 then (targumref1_May.j0 k bt198.1 bt198.2 true) else (if bt198.1 = 13 then (targumref1_May.j0 k bt198.1 bt198.2 true) else (if bt198.1 ≥ 32 then (if bt198.1 ≤ 126 then (targumref1_May.j0 k bt198.1 bt198.2 true) else (targumref1_May.j0 k bt198.1 bt198.2 (bt198.1 == 133))) else (targumref1_May.j0 k bt198.1 bt198.2 (bt198.1 == 133))))))
theorem targumref1_May.mono_l : ∀ k, (∀ y0 y1 y2, LeO (targumref1_May.j0 k y0 y1 y2) (targumref1_May.j0 (k + 1) y0 y1 y2))
 | 0 => fun _ _ _ r h => by simp [targumref1_May.j0] at h
 | k + 1 => by
  have ih0 := targumref1_May.mono_l k
  ·intro y0 y1 y2
   unfold targumref1_May.j0
   repeat' first
   | (with_reducible exact ih0 _ _ _)
   | (with_reducible exact targumref1_Next.mono _ _ _)
   | (with_reducible exact LeO.refl _)
   | (with_reducible exact LeO.none _)
   | (with_reducible refine LeO.ite ?_ ?_)
   | (with_reducible refine LeO.bind ?_ (fun _ => ?_))
   | exact ih0 _ _ _
   | exact targumref1_Next.mono _ _ _
   | exact LeO.none _
   | refine LeO.ite ?_ ?_
   | refine LeO.bind ?_ (fun _ => ?_)
theorem targumref1_May.mono : ∀ a0 a1 k, LeO (targumref1_May.f k a0 a1) (targumref1_May.f (k + 1) a0 a1) := by
 intro a0 a1 k
 have ih0 := targumref1_May.mono_l k
 unfold targumref1_May.f
 repeat' first
   | (with_reducible exact ih0 _ _ _)
   | (with_reducible exact targumref1_Next.mono _ _ _)
   | (with_reducible exact LeO.refl _)
   | (with_reducible exact LeO.none _)
   | (with_reducible refine LeO.ite ?_ ?_)
   | (with_reducible refine LeO.bind ?_ (fun _ => ?_))
   | exact ih0 _ _ _
   | exact targumref1_Next.mono _ _ _
   | exact LeO.none _
   | refine LeO.ite ?_ ?_
   | refine LeO.bind ?_ (fun _ => ?_)
set_option maxHeartbeats 8000000 in
set_option maxRecDepth 100000 in
theorem targumref1_May.calls (k : Nat) (a0 : ByteArray) (a1 : Int) (r : Int) (w : World) (h : targumref1_May.f k a0 a1 = some r) :
  Calls Tryd.prog 46 #[.string a0, .int .i64 a1] w fun e w' => e = .returned (.int .i64 r) ∧ Drawn0 w w' := by
 have H : ((targumref1_Next.f k a0 a1).bind fun bt198 => (if bt198.1 = 9 then (targumref1_May.j0 k bt198.1 bt198.2 true) else (if bt198.1 = 10 then (targumref1_May.j0 k bt198.1 bt198.2 true) else (if bt198.1 = 13 then (targumref1_May.j0 k bt198.1 bt198.2 true) else (if bt198.1 ≥ 32 then (if bt198.1 ≤ 126 then (targumref1_May.j0 k bt198.1 bt198.2 true) else (targumref1_May.j0 k bt198.1 bt198.2 (bt198.1 == 133))) else (targumref1_May.j0 k bt198.1 bt198.2 (bt198.1 == 133))))))) = some r := h
 clear h
 replace H := Option.bind_eq_some_iff.mp H
 obtain ⟨⟨t198, t199⟩, A30, H⟩ := H
 replace H : (if t198 = 9 then (targumref1_May.j0 k t198 t199 true) else (if t198 = 10 then (targumref1_May.j0 k t198 t199 true) else (if t198 = 13 then (targumref1_May.j0 k t198 t199 true) else (if t198 ≥ 32 then (if t198 ≤ 126 then (targumref1_May.j0 k t198 t199 true) else (targumref1_May.j0 k t198 t199 (t198 == 133))) else (targumref1_May.j0 k t198 t199 (t198 == 133)))))) = some r := H
 have A3 := Aside0.mk A30
 clear A30
 have HC4 := Aside0.mk H
 clear H
 go_enter Tryd.func46, Tryd.ntmps46
 go_upto_region 2 with (first | ((with_reducible refine gate_callee (f := 34) rfl ?_); refine goesL_ (some 10) rfl rfl Tryd.func34 (by kernel_rfl) rfl #[.string a0, .int .i64 a1] rfl (by (try simp only [List.map_toArray, List.map_cons, List.map_nil]); first | done | rfl | (simp only [List.length_drop, List.length_take]; rfl)) ?_; (with_reducible refine (targumref1_Next.calls k a0 a1 t198 t199 _ A3.out).mono ?_); rintro e w' ⟨rfl, ⟨nd, rfl⟩⟩; refine ⟨_, rfl, ?_⟩))
 (try simp only [Act.put, List.setIfInBounds_toArray, List.set_cons_zero, List.set_cons_succ])
 go_cut [13] (fun v13 wc => ∃ (kq : Nat) (x13_3 : Bool), v13 = .bool x13_3 ∧ Aside0 (targumref1_May.j0 kq t198 t199 x13_3 = some r) ∧ Aside0 (kq ≤ k) ∧ Drawn0 w wc)
 case first =>
  have H := HC4.out
  clear HC4
  by_cases c5 : t198 = 9
  ·rw [if_pos c5] at H
   have c5b0 : (t198 == 9) = true := beq_iff_eq.mpr c5
   have c5b1 : (t198 != 9) = false := bne_eq_false_iff_eq.mpr c5
   clear c5
   (first | rw [c5b0] | (simp only [i64_w, i32_w]; rw [c5b0]) | skip)
   have H' := Aside0.mk H
   clear H
   go_wp2
   go_meet
   case rel => exact ⟨_, (true), (by first | rfl | (simp; done) | (simp [*]; done) | (simp [wrap64]; done)), H', ⟨by first | omega | exact Nat.le_refl _⟩, by repeat (first | exact Drawn0.refl _ | apply Drawn0.step)⟩
  ·rw [if_neg c5] at H
   have c5b0 : (t198 == 9) = false := beq_eq_false_iff_ne.mpr c5
   have c5b1 : (t198 != 9) = true := bne_iff_ne.mpr c5
   (first | rw [c5b0] | (simp only [i64_w, i32_w]; rw [c5b0]) | skip)
   by_cases c6 : t198 = 10
   ·rw [if_pos c6] at H
    have c6b0 : (t198 == 10) = true := beq_iff_eq.mpr c6
    have c6b1 : (t198 != 10) = false := bne_eq_false_iff_eq.mpr c6
    clear c6
    have H' := Aside0.mk H
    clear H
    go_wp2
    go_meet
    case rel => exact ⟨_, (true), (by first | rfl | (simp; done) | (simp [*]; done) | (simp [wrap64]; done)), H', ⟨by first | omega | exact Nat.le_refl _⟩, by repeat (first | exact Drawn0.refl _ | apply Drawn0.step)⟩
   ·rw [if_neg c6] at H
    have c6b0 : (t198 == 10) = false := beq_eq_false_iff_ne.mpr c6
    have c6b1 : (t198 != 10) = true := bne_iff_ne.mpr c6
    by_cases c7 : t198 = 13
    ·rw [if_pos c7] at H
     have c7b0 : (t198 == 13) = true := beq_iff_eq.mpr c7
     have c7b1 : (t198 != 13) = false := bne_eq_false_iff_eq.mpr c7
     clear c7
     have H' := Aside0.mk H
     clear H
     go_wp2
     go_meet
     case rel => exact ⟨_, (true), (by first | rfl | (simp; done) | (simp [*]; done) | (simp [wrap64]; done)), H', ⟨by first | omega | exact Nat.le_refl _⟩, by repeat (first | exact Drawn0.refl _ | apply Drawn0.step)⟩
    ·rw [if_neg c7] at H
     have c7b0 : (t198 == 13) = false := beq_eq_false_iff_ne.mpr c7
     have c7b1 : (t198 != 13) = true := bne_iff_ne.mpr c7
     by_cases c8 : t198 ≥ 32
     ·rw [if_pos c8] at H
      have c8b0 : decide (32 ≤ t198) = true := decide_eq_true c8
      clear c8
      by_cases c9 : t198 ≤ 126
      ·rw [if_pos c9] at H
       have c9b0 : decide (t198 ≤ 126) = true := decide_eq_true c9
       clear c9
       have H' := Aside0.mk H
       clear H
       go_wp2
       go_meet
       case rel => exact ⟨_, (true), (by first | rfl | (simp; done) | (simp [*]; done) | (simp [wrap64]; done)), H', ⟨by first | omega | exact Nat.le_refl _⟩, by repeat (first | exact Drawn0.refl _ | apply Drawn0.step)⟩
      ·rw [if_neg c9] at H
       have c9b0 : decide (t198 ≤ 126) = false := decide_eq_false c9
       clear c9
       have H' := Aside0.mk H
       clear H
       go_wp2
       go_meet
       case rel => exact ⟨_, ((t198 == 133)), (by first | rfl | (simp; done) | (simp [*]; done) | (simp [wrap64]; done)), H', ⟨by first | omega | exact Nat.le_refl _⟩, by repeat (first | exact Drawn0.refl _ | apply Drawn0.step)⟩
     ·rw [if_neg c8] at H
      have c8b0 : decide (32 ≤ t198) = false := decide_eq_false c8
      clear c8
      have H' := Aside0.mk H
      clear H
      go_wp2
      go_meet
      case rel => exact ⟨_, ((t198 == 133)), (by first | rfl | (simp; done) | (simp [*]; done) | (simp [wrap64]; done)), H', ⟨by first | omega | exact Nat.le_refl _⟩, by repeat (first | exact Drawn0.refl _ | apply Drawn0.step)⟩
 case rest =>
  clear HC4
  try clear p2; try clear c3; try clear c4; try clear c5; try clear c5b0; try clear c5b1; try clear c6; try clear c6b0; try clear c6b1; try clear c7; try clear c7b0; try clear c7b1; try clear c8; try clear c8b0; try clear c9; try clear c9b0
  obtain ⟨kq, x13_3, rfl, HA, HJ3, ⟨mc3, rfl⟩⟩ := hcut
  cases kq with
  | zero => exact absurd HA.out (by simp [targumref1_May.j0])
  | succ kj3 =>
   have H := HA.out
   clear HA
   simp only [targumref1_May.j0] at H
   by_cases c10 : x13_3 = true
   ·subst c10
    have H1 : (some t199) = some r := by rw [if_pos rfl] at H; exact H
    clear H
    have H := H1
    clear H1
    obtain rfl := Option.some.inj H
    go_wp2
    go_ret
    exact ⟨by first | rfl | (simp; done) | (simp [*]; done) | (simp [wrap64]; done), by repeat (first | exact Drawn0.refl _ | apply Drawn0.step)⟩
   ·replace c10 := Bool.eq_false_iff.mpr c10
    subst c10
    have H1 : (if t198 ≥ 160 then (if t198 ≤ 65533 then (if t198 = 65279 then (if t198 ≥ 65536 then (some t199) else (some 0)) else (some t199)) else (if t198 ≥ 65536 then (some t199) else (some 0))) else (if t198 ≥ 65536 then (some t199) else (some 0))) = some r := by rw [if_neg (show ¬ (false = true) by decide)] at H; exact H
    clear H
    have H := H1
    clear H1
    by_cases c11 : t198 ≥ 160
    ·rw [if_pos c11] at H
     have c11b0 : decide (160 ≤ t198) = true := decide_eq_true c11
     clear c11
     by_cases c12 : t198 ≤ 65533
     ·rw [if_pos c12] at H
      have c12b0 : decide (t198 ≤ 65533) = true := decide_eq_true c12
      clear c12
      by_cases c13 : t198 = 65279
      ·rw [if_pos c13] at H
       have c13b0 : (t198 == 65279) = true := beq_iff_eq.mpr c13
       have c13b1 : (t198 != 65279) = false := bne_eq_false_iff_eq.mpr c13
       clear c13
       by_cases c14 : t198 ≥ 65536
       ·rw [if_pos c14] at H
        have c14b0 : decide (65536 ≤ t198) = true := decide_eq_true c14
        clear c14
        obtain rfl := Option.some.inj H
        go_wp2
        go_ret
        exact ⟨by first | rfl | (simp; done) | (simp [*]; done) | (simp [wrap64]; done), by repeat (first | exact Drawn0.refl _ | apply Drawn0.step)⟩
       ·rw [if_neg c14] at H
        have c14b0 : decide (65536 ≤ t198) = false := decide_eq_false c14
        clear c14
        obtain rfl := Option.some.inj H
        go_wp2
        go_ret
        exact ⟨by first | rfl | (simp; done) | (simp [*]; done) | (simp [wrap64]; done), by repeat (first | exact Drawn0.refl _ | apply Drawn0.step)⟩
      ·rw [if_neg c13] at H
       have c13b0 : (t198 == 65279) = false := beq_eq_false_iff_ne.mpr c13
       have c13b1 : (t198 != 65279) = true := bne_iff_ne.mpr c13
       obtain rfl := Option.some.inj H
       go_wp2
       go_ret
       exact ⟨by first | rfl | (simp; done) | (simp [*]; done) | (simp [wrap64]; done), by repeat (first | exact Drawn0.refl _ | apply Drawn0.step)⟩
     ·rw [if_neg c12] at H
      have c12b0 : decide (t198 ≤ 65533) = false := decide_eq_false c12
      clear c12
      by_cases c15 : t198 ≥ 65536
      ·rw [if_pos c15] at H
       have c15b0 : decide (65536 ≤ t198) = true := decide_eq_true c15
       clear c15
       obtain rfl := Option.some.inj H
       go_wp2
       go_ret
       exact ⟨by first | rfl | (simp; done) | (simp [*]; done) | (simp [wrap64]; done), by repeat (first | exact Drawn0.refl _ | apply Drawn0.step)⟩
      ·rw [if_neg c15] at H
       have c15b0 : decide (65536 ≤ t198) = false := decide_eq_false c15
       clear c15
       obtain rfl := Option.some.inj H
       go_wp2
       go_ret
       exact ⟨by first | rfl | (simp; done) | (simp [*]; done) | (simp [wrap64]; done), by repeat (first | exact Drawn0.refl _ | apply Drawn0.step)⟩
    ·rw [if_neg c11] at H
     have c11b0 : decide (160 ≤ t198) = false := decide_eq_false c11
     clear c11
     by_cases c16 : t198 ≥ 65536
     ·rw [if_pos c16] at H
      have c16b0 : decide (65536 ≤ t198) = true := decide_eq_true c16
      clear c16
      obtain rfl := Option.some.inj H
      go_wp2
      go_ret
      exact ⟨by first | rfl | (simp; done) | (simp [*]; done) | (simp [wrap64]; done), by repeat (first | exact Drawn0.refl _ | apply Drawn0.step)⟩
     ·rw [if_neg c16] at H
      have c16b0 : decide (65536 ≤ t198) = false := decide_eq_false c16
      clear c16
      obtain rfl := Option.some.inj H
      go_wp2
      go_ret
      exact ⟨by first | rfl | (simp; done) | (simp [*]; done) | (simp [wrap64]; done), by repeat (first | exact Drawn0.refl _ | apply Drawn0.step)⟩

end Go.Proofs.YtmpdggphhhljhaaDoor.PC
