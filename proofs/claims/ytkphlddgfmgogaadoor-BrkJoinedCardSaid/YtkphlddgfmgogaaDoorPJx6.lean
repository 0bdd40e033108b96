/- Written by this session's own program (xprint, made over the kit's print): Lean functions with the same answers as the Go functions, and the proofs of that. Not trusted: Lean checks it. -/
import Derived.Test.YtkphlddgfmgogaaDoorPJx0
import Derived.Test.YtkphlddgfmgogaaDoorPJx5
namespace Go.Proofs.YtkphlddgfmgogaaDoor.PJ
open Go.RowKit Go.Proofs.YtkphlddgfmgogaaDoorW.PrintWords Go.Proofs.YtkphlddgfmgogaaDoorW.PrintLast Go.Proofs.YtkphlddgfmgogaaDoorW.PrintMore
attribute [local go_sem] max2_int min2_int max_two min_two max_three min_three max_four min_four   -- for this text's walks alone
set_option linter.unusedVariables false
set_option linter.unusedSimpArgs false

/-! ### targumref1_Break: function 15 -/
mutual
def targumref1_Break.j0 : Nat → Int → ByteArray → Int → Bool → Option (Int)
  | 0, _, _, _, _ => none
  | k + 1, x0, x1, x2, x16 => if x16 = true then (some 0) else (if 0 ≤ x2 then (if x2 < (x1.size : Int) then (if (bt x1 x2) = 13 then (if (wrap64 (x2 + 1)) < (x1.size : Int) then (if 0 ≤ (wrap64 (x2 + 1)) then (targumref1_Break.j1 k x0 x1 x2 ((bt x1 (wrap64 (x2 + 1))) == 10)) else (none)) else (targumref1_Break.j1 k x0 x1 x2 false)) else (targumref1_Break.j1 k x0 x1 x2 false)) else (none)) else (none))
def targumref1_Break.j1 : Nat → Int → ByteArray → Int → Bool → Option (Int)
  | 0, _, _, _, _ => none
  | k + 1, x0, x1, x2, x17 => if x17 = true then (some 2) else (if 0 ≤ x2 then (if x2 < (x1.size : Int) then (if (bt x1 x2) = 10 then (targumref1_Break.j2 k x0 x1 x2 true) else (targumref1_Break.j2 k x0 x1 x2 ((bt x1 x2) == 13))) else (none)) else (none))
def targumref1_Break.j2 : Nat → Int → ByteArray → Int → Bool → Option (Int)
  | 0, _, _, _, _ => none
  | k + 1, x0, x1, x2, x36 => if x36 = true then (some 1) else (if x0 = 11 then ((targumref1_Next.f k x1 x2).bind fun bt144 => (if bt144.1 = 133 then (some bt144.2) else (if bt144.1 = 8232 then (some bt144.2) else (if bt144.1 = 8233 then (some bt144.2) else (some 0))))) else (some 0))
end
def targumref1_Break.f (k : Nat) (a0 : Int) (a1 : ByteArray) (a2 : Int) : Option (Int) := if a2 < 0 then (targumref1_Break.j0 k a0 a1 a2 true) else (targumref1_Break.j0 k a0 a1 a2 (decide (a2 ≥ (a1.size : Int))))
theorem targumref1_Break.mono_l : ∀ k, (∀ y0 y1 y2 y3, LeO (targumref1_Break.j0 k y0 y1 y2 y3) (targumref1_Break.j0 (k + 1) y0 y1 y2 y3)) ∧ (∀ y0 y1 y2 y3, LeO (targumref1_Break.j1 k y0 y1 y2 y3) (targumref1_Break.j1 (k + 1) y0 y1 y2 y3)) ∧ (∀ y0 y1 y2 y3, LeO (targumref1_Break.j2 k y0 y1 y2 y3) (targumref1_Break.j2 (k + 1) y0 y1 y2 y3))
  | 0 => ⟨fun _ _ _ _ r h => by simp [targumref1_Break.j0] at h, fun _ _ _ _ r h => by simp [targumref1_Break.j1] at h, fun _ _ _ _ r h => by simp [targumref1_Break.j2] at h⟩
  | k + 1 => by
    obtain ⟨ih0, ih1, ih2⟩ := targumref1_Break.mono_l k
    refine ⟨?_, ?_, ?_⟩
    · intro y0 y1 y2 y3
      unfold targumref1_Break.j0
      repeat' first
      | (with_reducible exact ih0 _ _ _ _)
      | (with_reducible exact ih1 _ _ _ _)
      | (with_reducible exact ih2 _ _ _ _)
      | (with_reducible exact targumref1_Next.mono _ _ _)
      | (with_reducible exact LeO.refl _)
      | (with_reducible exact LeO.none _)
      | (with_reducible refine LeO.ite ?_ ?_)
      | (with_reducible refine LeO.bind ?_ (fun _ => ?_))
      | exact ih0 _ _ _ _
      | exact ih1 _ _ _ _
      | exact ih2 _ _ _ _
      | exact targumref1_Next.mono _ _ _
      | exact LeO.none _
      | refine LeO.ite ?_ ?_
      | refine LeO.bind ?_ (fun _ => ?_)
    · intro y0 y1 y2 y3
      unfold targumref1_Break.j1
      repeat' first
      | (with_reducible exact ih0 _ _ _ _)
      | (with_reducible exact ih1 _ _ _ _)
      | (with_reducible exact ih2 _ _ _ _)
      | (with_reducible exact targumref1_Next.mono _ _ _)
      | (with_reducible exact LeO.refl _)
      | (with_reducible exact LeO.none _)
      | (with_reducible refine LeO.ite ?_ ?_)
      | (with_reducible refine LeO.bind ?_ (fun _ => ?_))
      | exact ih0 _ _ _ _
      | exact ih1 _ _ _ _
      | exact ih2 _ _ _ _
      | exact targumref1_Next.mono _ _ _
      | exact LeO.none _
      | refine LeO.ite ?_ ?_
      | refine LeO.bind ?_ (fun _ => ?_)
    · intro y0 y1 y2 y3
      unfold targumref1_Break.j2
      repeat' first
      | (with_reducible exact ih0 _ _ _ _)
      | (with_reducible exact ih1 _ _ _ _)
      | (with_reducible exact ih2 _ _ _ _)
      | (with_reducible exact targumref1_Next.mono _ _ _)
      | (with_reducible exact LeO.refl _)
      | (with_reducible exact LeO.none _)
      | (with_reducible refine LeO.ite ?_ ?_)
      | (with_reducible refine LeO.bind ?_ (fun _ => ?_))
      | exact ih0 _ _ _ _
      | exact ih1 _ _ _ _
      | exact ih2 _ _ _ _
      | exact targumref1_Next.mono _ _ _
      | exact LeO.none _
      | refine LeO.ite ?_ ?_
      | refine LeO.bind ?_ (fun _ => ?_)
theorem targumref1_Break.mono : ∀ a0 a1 a2 k, LeO (targumref1_Break.f k a0 a1 a2) (targumref1_Break.f (k + 1) a0 a1 a2) := by
  intro a0 a1 a2 k
  obtain ⟨ih0, ih1, ih2⟩ := targumref1_Break.mono_l k
  unfold targumref1_Break.f
  repeat' first
      | (with_reducible exact ih0 _ _ _ _)
      | (with_reducible exact ih1 _ _ _ _)
      | (with_reducible exact ih2 _ _ _ _)
      | (with_reducible exact targumref1_Next.mono _ _ _)
      | (with_reducible exact LeO.refl _)
      | (with_reducible exact LeO.none _)
      | (with_reducible refine LeO.ite ?_ ?_)
      | (with_reducible refine LeO.bind ?_ (fun _ => ?_))
      | exact ih0 _ _ _ _
      | exact ih1 _ _ _ _
      | exact ih2 _ _ _ _
      | exact targumref1_Next.mono _ _ _
      | exact LeO.none _
      | refine LeO.ite ?_ ?_
      | refine LeO.bind ?_ (fun _ => ?_)
set_option maxHeartbeats 8000000 in
set_option maxRecDepth 100000 in
theorem targumref1_Break.calls (k : Nat) (a0 : Int) (a1 : ByteArray) (a2 : Int) (r : Int) (w : World) (h : targumref1_Break.f k a0 a1 a2 = some r) :
    Calls Tryd.prog 15 #[.int .i64 a0, .string a1, .int .i64 a2] w fun e w' => e = .returned (.int .i64 r) ∧ Drawn0 w w' := by
  have H : (if a2 < 0 then (targumref1_Break.j0 k a0 a1 a2 true) else (targumref1_Break.j0 k a0 a1 a2 (decide (a2 ≥ (a1.size : Int))))) = some r := h
  clear h
  have HC4 := Aside0.mk H
  clear H
  go_enter Tryd.func15, Tryd.ntmps15
  go_upto_region 1 with (fail)
  go_cut [16] (fun v16 wc => ∃ (kq : Nat) (x16_3 : Bool), v16 = .bool x16_3 ∧ Aside0 (targumref1_Break.j0 kq a0 a1 a2 x16_3 = some r) ∧ Aside0 (kq ≤ k) ∧ Drawn0 w wc)
  case first =>
    have H := HC4.out
    clear HC4
    by_cases c5 : a2 < 0
    · rw [if_pos c5] at H
      have c5b0 : decide (a2 < 0) = true := decide_eq_true c5
      clear c5
      (first | rw [c5b0] | (simp only [i64_w, i32_w]; rw [c5b0]) | skip)
      have H' := Aside0.mk H
      clear H
      go_wp2
      go_meet
      case rel => exact ⟨_, (true), (by first | rfl | (simp; done) | (simp [*]; done) | (simp [wrap64]; done)), H', ⟨by first | omega | exact Nat.le_refl _⟩, by repeat (first | exact Drawn0.refl _ | apply Drawn0.step)⟩
    · rw [if_neg c5] at H
      have c5b0 : decide (a2 < 0) = false := decide_eq_false c5
      clear c5
      (first | rw [c5b0] | (simp only [i64_w, i32_w]; rw [c5b0]) | skip)
      have H' := Aside0.mk H
      clear H
      go_wp2
      go_meet
      case rel => exact ⟨_, (decide (a2 ≥ (a1.size : Int))), (by first | rfl | (simp; done) | (simp [*]; done) | (simp [wrap64]; done)), H', ⟨by first | omega | exact Nat.le_refl _⟩, by repeat (first | exact Drawn0.refl _ | apply Drawn0.step)⟩
  case rest =>
    clear HC4
    try clear c1
    try clear p2
    try clear c5
    try clear c5b0
    obtain ⟨kq, x16_3, rfl, HA, HJ3, ⟨mc3, rfl⟩⟩ := hcut
    cases kq with
    | zero => exact absurd HA.out (by simp [targumref1_Break.j0])
    | succ kj3 =>
      have H := HA.out
      clear HA
      simp only [targumref1_Break.j0] at H
      by_cases c6 : x16_3 = true
      · subst c6
        have H1 : (some 0) = some r := by rw [if_pos rfl] at H; exact H
        clear H
        have H := H1
        clear H1
        obtain rfl := Option.some.inj H
        go_wp2
        go_ret
        exact ⟨by first | rfl | (simp; done) | (simp [*]; done) | (simp [wrap64]; done), by repeat (first | exact Drawn0.refl _ | apply Drawn0.step)⟩
      · replace c6 := Bool.eq_false_iff.mpr c6
        subst c6
        have H1 : (if 0 ≤ a2 then (if a2 < (a1.size : Int) then (if (bt a1 a2) = 13 then (if (wrap64 (a2 + 1)) < (a1.size : Int) then (if 0 ≤ (wrap64 (a2 + 1)) then (targumref1_Break.j1 kj3 a0 a1 a2 ((bt a1 (wrap64 (a2 + 1))) == 10)) else (none)) else (targumref1_Break.j1 kj3 a0 a1 a2 false)) else (targumref1_Break.j1 kj3 a0 a1 a2 false)) else (none)) else (none)) = some r := by rw [if_neg (show ¬ (false = true) by decide)] at H; exact H
        clear H
        have H := H1
        clear H1
        have HC7 := Aside0.mk H
        clear H
        go_upto_region 3 with (fail)
        go_cut [17] (fun v17 wc => ∃ (kq : Nat) (x17_6 : Bool), v17 = .bool x17_6 ∧ Aside0 (targumref1_Break.j1 kq a0 a1 a2 x17_6 = some r) ∧ Aside0 (kq ≤ kj3) ∧ Drawn0 w wc)
        case first =>
          have H := HC7.out
          clear HC7
          by_cases c8 : 0 ≤ a2
          · rw [if_pos c8] at H
            have c8b0 : decide (0 ≤ a2) = true := decide_eq_true c8
            clear c8
            (first | rw [c8b0] | (simp only [i64_w, i32_w]; rw [c8b0]) | skip)
            by_cases c9 : a2 < (a1.size : Int)
            · rw [if_pos c9] at H
              have c9b0 : decide (a2 < (a1.size : Int)) = true := decide_eq_true c9
              clear c9
              by_cases c11 : (bt a1 a2) = 13
              · rw [if_pos c11] at H
                have c11b0 : ((bt a1 a2) == 13) = true := beq_iff_eq.mpr c11
                have c11b1 : ((bt a1 a2) != 13) = false := bne_eq_false_iff_eq.mpr c11
                clear c11
                by_cases c12 : (wrap64 (a2 + 1)) < (a1.size : Int)
                · rw [if_pos c12] at H
                  have c12b0 : decide ((wrap64 (a2 + 1)) < (a1.size : Int)) = true := decide_eq_true c12
                  clear c12
                  obtain ⟨ji13, hji13⟩ : ∃ j_ : Int, (wrap64 (a2 + 1)) = j_ := ⟨_, rfl⟩
                  replace H : (if 0 ≤ (ji13) then (targumref1_Break.j1 kj3 a0 a1 a2 ((bt a1 (ji13)) == 10)) else (none)) = some r := by first | (rw [hji13] at H; exact H) | (simp only [hji13] at H ⊢; exact H)
                  (try rw [hji13] at c12b0)
                  have hji13w : (IntKind.i64.wrap (a2 + 1)) = ji13 := (i64_w _).trans hji13
                  by_cases c14 : 0 ≤ (ji13)
                  · rw [if_pos c14] at H
                    have c14b0 : decide (0 ≤ (ji13)) = true := decide_eq_true c14
                    clear c14
                    have H' := Aside0.mk H
                    clear H
                    have p10 : 0 ≤ (a2 : Int) := of_decide_eq_true (by first | (with_reducible assumption) | assumption)
                    have q10 : a2 < (a1.size : Int) := of_decide_eq_true (by first | (with_reducible assumption) | assumption)
                    have hx10 := bt_at a1 a2
                    replace p10 := eq_true p10
                    replace q10 := eq_true q10
                    have p15 : 0 ≤ ((ji13) : Int) := of_decide_eq_true (by first | (with_reducible assumption) | assumption)
                    have q15 : (ji13) < (a1.size : Int) := of_decide_eq_true (by first | (with_reducible assumption) | assumption)
                    have hx15 := bt_at a1 (ji13)
                    replace p15 := eq_true p15
                    replace q15 := eq_true q15
                    go_wp2
                    go_meet
                    case rel => exact ⟨_, (((bt a1 (ji13)) == 10)), (by first | rfl | (simp; done) | (simp only [← hji13] <;> (first | rfl | simp)) | (simp [*]; done)), H', ⟨by have := HJ3.out; first | omega | exact Nat.le_refl _⟩, by repeat (first | exact Drawn0.refl _ | apply Drawn0.step)⟩
                  · rw [if_neg c14] at H
                    exact absurd H (by simp)
                · rw [if_neg c12] at H
                  have c12b0 : decide ((wrap64 (a2 + 1)) < (a1.size : Int)) = false := decide_eq_false c12
                  try (have c12b0j := c12b0; rw [hji13] at c12b0j)
                  clear c12
                  have H' := Aside0.mk H
                  clear H
                  have p10 : 0 ≤ (a2 : Int) := of_decide_eq_true (by first | (with_reducible assumption) | assumption)
                  have q10 : a2 < (a1.size : Int) := of_decide_eq_true (by first | (with_reducible assumption) | assumption)
                  have hx10 := bt_at a1 a2
                  replace p10 := eq_true p10
                  replace q10 := eq_true q10
                  go_wp2
                  go_meet
                  case rel => exact ⟨_, (false), (by first | rfl | (simp; done) | (simp [*]; done) | (simp [wrap64]; done)), H', ⟨by have := HJ3.out; first | omega | exact Nat.le_refl _⟩, by repeat (first | exact Drawn0.refl _ | apply Drawn0.step)⟩
              · rw [if_neg c11] at H
                have c11b0 : ((bt a1 a2) == 13) = false := beq_eq_false_iff_ne.mpr c11
                have c11b1 : ((bt a1 a2) != 13) = true := bne_iff_ne.mpr c11
                have H' := Aside0.mk H
                clear H
                have p10 : 0 ≤ (a2 : Int) := of_decide_eq_true (by first | (with_reducible assumption) | assumption)
                have q10 : a2 < (a1.size : Int) := of_decide_eq_true (by first | (with_reducible assumption) | assumption)
                have hx10 := bt_at a1 a2
                replace p10 := eq_true p10
                replace q10 := eq_true q10
                go_wp2
                go_meet
                case rel => exact ⟨_, (false), (by first | rfl | (simp; done) | (simp [*]; done) | (simp [wrap64]; done)), H', ⟨by have := HJ3.out; first | omega | exact Nat.le_refl _⟩, by repeat (first | exact Drawn0.refl _ | apply Drawn0.step)⟩
            · rw [if_neg c9] at H
              exact absurd H (by simp)
          · rw [if_neg c8] at H
            exact absurd H (by simp)
        case rest =>
          clear HC7
          try clear c1
          try clear p1
          try clear q1
          try clear hx1
          try clear p2
          try clear c3
          try clear c5
          try clear c5b0
          try clear c6
          try clear p6
          try clear c8
          try clear c8b0
          try clear c9
          try clear c9b0
          try clear p10
          try clear q10
          try clear hx10
          try clear c11
          try clear c11b0
          try clear c11b1
          try clear c12
          try clear c12b0
          try clear c14
          try clear c14b0
          try clear c15
          try clear p15
          try clear q15
          try clear hx15
          try clear p10
          try clear p15
          try clear p2
          try clear q10
          try clear q15
          obtain ⟨kq, x17_6, rfl, HA, HJ6, ⟨mc6, rfl⟩⟩ := hcut
          cases kq with
          | zero => exact absurd HA.out (by simp [targumref1_Break.j1])
          | succ kj6 =>
            have H := HA.out
            clear HA
            simp only [targumref1_Break.j1] at H
            by_cases c16 : x17_6 = true
            · subst c16
              have H1 : (some 2) = some r := by rw [if_pos rfl] at H; exact H
              clear H
              have H := H1
              clear H1
              obtain rfl := Option.some.inj H
              go_wp2
              go_ret
              exact ⟨by first | rfl | (simp; done) | (simp [*]; done) | (simp [wrap64]; done), by repeat (first | exact Drawn0.refl _ | apply Drawn0.step)⟩
            · replace c16 := Bool.eq_false_iff.mpr c16
              subst c16
              have H1 : (if 0 ≤ a2 then (if a2 < (a1.size : Int) then (if (bt a1 a2) = 10 then (targumref1_Break.j2 kj6 a0 a1 a2 true) else (targumref1_Break.j2 kj6 a0 a1 a2 ((bt a1 a2) == 13))) else (none)) else (none)) = some r := by rw [if_neg (show ¬ (false = true) by decide)] at H; exact H
              clear H
              have H := H1
              clear H1
              have HC17 := Aside0.mk H
              clear H
              go_upto_region 5 with (fail)
              go_cut [36] (fun v36 wc => ∃ (kq : Nat) (x36_16 : Bool), v36 = .bool x36_16 ∧ Aside0 (targumref1_Break.j2 kq a0 a1 a2 x36_16 = some r) ∧ Aside0 (kq ≤ kj6) ∧ Drawn0 w wc)
              case first =>
                have H := HC17.out
                clear HC17
                by_cases c18 : 0 ≤ a2
                · rw [if_pos c18] at H
                  have c18b0 : decide (0 ≤ a2) = true := decide_eq_true c18
                  clear c18
                  (first | rw [c18b0] | (simp only [i64_w, i32_w]; rw [c18b0]) | skip)
                  by_cases c19 : a2 < (a1.size : Int)
                  · rw [if_pos c19] at H
                    have c19b0 : decide (a2 < (a1.size : Int)) = true := decide_eq_true c19
                    clear c19
                    by_cases c21 : (bt a1 a2) = 10
                    · rw [if_pos c21] at H
                      have c21b0 : ((bt a1 a2) == 10) = true := beq_iff_eq.mpr c21
                      have c21b1 : ((bt a1 a2) != 10) = false := bne_eq_false_iff_eq.mpr c21
                      clear c21
                      have H' := Aside0.mk H
                      clear H
                      have p20 : 0 ≤ (a2 : Int) := of_decide_eq_true (by first | (with_reducible assumption) | assumption)
                      have q20 : a2 < (a1.size : Int) := of_decide_eq_true (by first | (with_reducible assumption) | assumption)
                      have hx20 := bt_at a1 a2
                      replace p20 := eq_true p20
                      replace q20 := eq_true q20
                      go_wp2
                      go_meet
                      case rel => exact ⟨_, (true), (by first | rfl | (simp; done) | (simp [*]; done) | (simp [wrap64]; done)), H', ⟨by have := HJ3.out; have := HJ6.out; first | omega | exact Nat.le_refl _⟩, by repeat (first | exact Drawn0.refl _ | apply Drawn0.step)⟩
                    · rw [if_neg c21] at H
                      have c21b0 : ((bt a1 a2) == 10) = false := beq_eq_false_iff_ne.mpr c21
                      have c21b1 : ((bt a1 a2) != 10) = true := bne_iff_ne.mpr c21
                      have H' := Aside0.mk H
                      clear H
                      have p20 : 0 ≤ (a2 : Int) := of_decide_eq_true (by first | (with_reducible assumption) | assumption)
                      have q20 : a2 < (a1.size : Int) := of_decide_eq_true (by first | (with_reducible assumption) | assumption)
                      have hx20 := bt_at a1 a2
                      replace p20 := eq_true p20
                      replace q20 := eq_true q20
                      have p22 : 0 ≤ (a2 : Int) := of_decide_eq_true (by first | (with_reducible assumption) | assumption)
                      have q22 : a2 < (a1.size : Int) := of_decide_eq_true (by first | (with_reducible assumption) | assumption)
                      have hx22 := bt_at a1 a2
                      replace p22 := eq_true p22
                      replace q22 := eq_true q22
                      go_wp2
                      go_meet
                      case rel => exact ⟨_, (((bt a1 a2) == 13)), (by first | rfl | (simp; done) | (simp [*]; done) | (simp [wrap64]; done)), H', ⟨by have := HJ3.out; have := HJ6.out; first | omega | exact Nat.le_refl _⟩, by repeat (first | exact Drawn0.refl _ | apply Drawn0.step)⟩
                  · rw [if_neg c19] at H
                    exact absurd H (by simp)
                · rw [if_neg c18] at H
                  exact absurd H (by simp)
              case rest =>
                clear HC17
                try clear c1
                try clear p1
                try clear q1
                try clear hx1
                try clear c2
                try clear p2
                try clear q2
                try clear hx2
                try clear c3
                try clear c5
                try clear c5b0
                try clear c6
                try clear p6
                try clear c8
                try clear c8b0
                try clear c9
                try clear c9b0
                try clear p10
                try clear q10
                try clear hx10
                try clear c11
                try clear c11b0
                try clear c11b1
                try clear c12
                try clear c12b0
                try clear c14
                try clear c14b0
                try clear c15
                try clear p15
                try clear q15
                try clear hx15
                try clear c16
                try clear c18
                try clear c18b0
                try clear c19
                try clear c19b0
                try clear p20
                try clear q20
                try clear hx20
                try clear c21
                try clear c21b0
                try clear c21b1
                try clear p22
                try clear q22
                try clear hx22
                try clear p1
                try clear p10
                try clear p15
                try clear p2
                try clear p20
                try clear p22
                try clear p6
                try clear q1
                try clear q10
                try clear q15
                try clear q20
                try clear q22
                obtain ⟨kq, x36_16, rfl, HA, HJ16, ⟨mc16, rfl⟩⟩ := hcut
                cases kq with
                | zero => exact absurd HA.out (by simp [targumref1_Break.j2])
                | succ kj16 =>
                  have H := HA.out
                  clear HA
                  simp only [targumref1_Break.j2] at H
                  by_cases c23 : x36_16 = true
                  · subst c23
                    have H1 : (some 1) = some r := by rw [if_pos rfl] at H; exact H
                    clear H
                    have H := H1
                    clear H1
                    obtain rfl := Option.some.inj H
                    go_wp2
                    go_ret
                    exact ⟨by first | rfl | (simp; done) | (simp [*]; done) | (simp [wrap64]; done), by repeat (first | exact Drawn0.refl _ | apply Drawn0.step)⟩
                  · replace c23 := Bool.eq_false_iff.mpr c23
                    subst c23
                    have H1 : (if a0 = 11 then ((targumref1_Next.f kj16 a1 a2).bind fun bt144 => (if bt144.1 = 133 then (some bt144.2) else (if bt144.1 = 8232 then (some bt144.2) else (if bt144.1 = 8233 then (some bt144.2) else (some 0))))) else (some 0)) = some r := by rw [if_neg (show ¬ (false = true) by decide)] at H; exact H
                    clear H
                    have H := H1
                    clear H1
                    by_cases c24 : a0 = 11
                    · rw [if_pos c24] at H
                      have c24b0 : (a0 == 11) = true := beq_iff_eq.mpr c24
                      have c24b1 : (a0 != 11) = false := bne_eq_false_iff_eq.mpr c24
                      clear c24
                      replace H := Option.bind_eq_some_iff.mp H
                      obtain ⟨⟨t144, t145⟩, A250, H⟩ := H
                      replace H : (if t144 = 133 then (some t145) else (if t144 = 8232 then (some t145) else (if t144 = 8233 then (some t145) else (some 0)))) = some r := H
                      have A25 := Aside0.mk A250
                      clear A250
                      by_cases c26 : t144 = 133
                      · rw [if_pos c26] at H
                        have c26b0 : (t144 == 133) = true := beq_iff_eq.mpr c26
                        have c26b1 : (t144 != 133) = false := bne_eq_false_iff_eq.mpr c26
                        clear c26
                        obtain rfl := Option.some.inj H
                        go_wp2_with (first | ((with_reducible refine gate_callee (f := 29) rfl ?_); refine goesL_ (some 53) rfl rfl Tryd.func29 (by kernel_rfl) rfl #[.string a1, .int .i64 a2] rfl (by (try simp only [List.map_toArray, List.map_cons, List.map_nil]); first | done | rfl | (simp only [List.length_drop, List.length_take]; rfl)) ?_; (with_reducible refine (targumref1_Next.calls kj16 a1 a2 t144 t145 _ A25.out).mono ?_); rintro e w' ⟨rfl, ⟨nd, rfl⟩⟩; refine ⟨_, rfl, ?_⟩))
                        go_ret
                        exact ⟨by first | rfl | (simp; done) | (simp [*]; done) | (simp [wrap64]; done), by repeat (first | exact Drawn0.refl _ | apply Drawn0.step)⟩
                      · rw [if_neg c26] at H
                        have c26b0 : (t144 == 133) = false := beq_eq_false_iff_ne.mpr c26
                        have c26b1 : (t144 != 133) = true := bne_iff_ne.mpr c26
                        by_cases c27 : t144 = 8232
                        · rw [if_pos c27] at H
                          have c27b0 : (t144 == 8232) = true := beq_iff_eq.mpr c27
                          have c27b1 : (t144 != 8232) = false := bne_eq_false_iff_eq.mpr c27
                          clear c27
                          obtain rfl := Option.some.inj H
                          go_wp2_with (first | ((with_reducible refine gate_callee (f := 29) rfl ?_); refine goesL_ (some 53) rfl rfl Tryd.func29 (by kernel_rfl) rfl #[.string a1, .int .i64 a2] rfl (by (try simp only [List.map_toArray, List.map_cons, List.map_nil]); first | done | rfl | (simp only [List.length_drop, List.length_take]; rfl)) ?_; (with_reducible refine (targumref1_Next.calls kj16 a1 a2 t144 t145 _ A25.out).mono ?_); rintro e w' ⟨rfl, ⟨nd, rfl⟩⟩; refine ⟨_, rfl, ?_⟩))
                          go_ret
                          exact ⟨by first | rfl | (simp; done) | (simp [*]; done) | (simp [wrap64]; done), by repeat (first | exact Drawn0.refl _ | apply Drawn0.step)⟩
                        · rw [if_neg c27] at H
                          have c27b0 : (t144 == 8232) = false := beq_eq_false_iff_ne.mpr c27
                          have c27b1 : (t144 != 8232) = true := bne_iff_ne.mpr c27
                          by_cases c28 : t144 = 8233
                          · rw [if_pos c28] at H
                            have c28b0 : (t144 == 8233) = true := beq_iff_eq.mpr c28
                            have c28b1 : (t144 != 8233) = false := bne_eq_false_iff_eq.mpr c28
                            clear c28
                            obtain rfl := Option.some.inj H
                            go_wp2_with (first | ((with_reducible refine gate_callee (f := 29) rfl ?_); refine goesL_ (some 53) rfl rfl Tryd.func29 (by kernel_rfl) rfl #[.string a1, .int .i64 a2] rfl (by (try simp only [List.map_toArray, List.map_cons, List.map_nil]); first | done | rfl | (simp only [List.length_drop, List.length_take]; rfl)) ?_; (with_reducible refine (targumref1_Next.calls kj16 a1 a2 t144 t145 _ A25.out).mono ?_); rintro e w' ⟨rfl, ⟨nd, rfl⟩⟩; refine ⟨_, rfl, ?_⟩))
                            go_ret
                            exact ⟨by first | rfl | (simp; done) | (simp [*]; done) | (simp [wrap64]; done), by repeat (first | exact Drawn0.refl _ | apply Drawn0.step)⟩
                          · rw [if_neg c28] at H
                            have c28b0 : (t144 == 8233) = false := beq_eq_false_iff_ne.mpr c28
                            have c28b1 : (t144 != 8233) = true := bne_iff_ne.mpr c28
                            obtain rfl := Option.some.inj H
                            go_wp2_with (first | ((with_reducible refine gate_callee (f := 29) rfl ?_); refine goesL_ (some 53) rfl rfl Tryd.func29 (by kernel_rfl) rfl #[.string a1, .int .i64 a2] rfl (by (try simp only [List.map_toArray, List.map_cons, List.map_nil]); first | done | rfl | (simp only [List.length_drop, List.length_take]; rfl)) ?_; (with_reducible refine (targumref1_Next.calls kj16 a1 a2 t144 t145 _ A25.out).mono ?_); rintro e w' ⟨rfl, ⟨nd, rfl⟩⟩; refine ⟨_, rfl, ?_⟩))
                            go_ret
                            exact ⟨by first | rfl | (simp; done) | (simp [*]; done) | (simp [wrap64]; done), by repeat (first | exact Drawn0.refl _ | apply Drawn0.step)⟩
                    · rw [if_neg c24] at H
                      have c24b0 : (a0 == 11) = false := beq_eq_false_iff_ne.mpr c24
                      have c24b1 : (a0 != 11) = true := bne_iff_ne.mpr c24
                      obtain rfl := Option.some.inj H
                      go_wp2
                      go_ret
                      exact ⟨by first | rfl | (simp; done) | (simp [*]; done) | (simp [wrap64]; done), by repeat (first | exact Drawn0.refl _ | apply Drawn0.step)⟩

end Go.Proofs.YtkphlddgfmgogaaDoor.PJ
