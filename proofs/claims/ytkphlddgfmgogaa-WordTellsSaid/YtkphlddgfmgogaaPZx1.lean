/- Written by this session's own program (xprint, made over the kit's print): Lean functions with the same answers as the Go functions, and the proofs of that. Not trusted: Lean checks it. -/
import Derived.Test.YtkphlddgfmgogaaPZx0
namespace Go.Proofs.Ytkphlddgfmgogaa.PZ
open Go.RowKit Go.Proofs.YtkphlddgfmgogaaW.PrintWords Go.Proofs.YtkphlddgfmgogaaW.PrintLast Go.Proofs.YtkphlddgfmgogaaW.PrintMore
attribute [local go_sem] max2_int min2_int max_two min_two max_three min_three max_four min_four   -- for this text's walks alone
set_option linter.unusedVariables false
set_option linter.unusedSimpArgs false

/-! ### word_Bool: function 8 -/
mutual
def word_Bool.j0 : Nat → Int → Bool → ByteArray → Bool → Option (Bool × Bool)
  | 0, _, _, _, _ => none
  | k + 1, x0, x6, x7, x8 => if x8 = true then (some ((x0 == 11), (x0 == 11))) else (if x7.toList = ([110] : List UInt8) then (word_Bool.j1 k x0 x6 x7 (x7.toList == ([110] : List UInt8))) else (if x7.toList = ([78] : List UInt8) then (word_Bool.j1 k x0 x6 x7 (x7.toList == ([78] : List UInt8))) else (if x7.toList = ([110, 111] : List UInt8) then (word_Bool.j1 k x0 x6 x7 (x7.toList == ([110, 111] : List UInt8))) else (if x7.toList = ([78, 111] : List UInt8) then (word_Bool.j1 k x0 x6 x7 (x7.toList == ([78, 111] : List UInt8))) else (if x7.toList = ([78, 79] : List UInt8) then (word_Bool.j1 k x0 x6 x7 (x7.toList == ([78, 79] : List UInt8))) else (if x7.toList = ([111, 102, 102] : List UInt8) then (word_Bool.j1 k x0 x6 x7 (x7.toList == ([111, 102, 102] : List UInt8))) else (if x7.toList = ([79, 102, 102] : List UInt8) then (word_Bool.j1 k x0 x6 x7 (x7.toList == ([79, 102, 102] : List UInt8))) else (word_Bool.j1 k x0 x6 x7 (x7.toList == ([79, 70, 70] : List UInt8))))))))))
def word_Bool.j1 : Nat → Int → Bool → ByteArray → Bool → Option (Bool × Bool)
  | 0, _, _, _, _ => none
  | k + 1, x0, x6, x7, x17 => if x17 = true then (if x6 = true then (some ((x0 == 11), (x0 == 11))) else (some (false, (x0 == 11)))) else (if x7.toList = ([116, 114, 117, 101] : List UInt8) then (word_Bool.j2 k x6 x7 (x7.toList == ([116, 114, 117, 101] : List UInt8))) else (if x7.toList = ([84, 114, 117, 101] : List UInt8) then (word_Bool.j2 k x6 x7 (x7.toList == ([84, 114, 117, 101] : List UInt8))) else (word_Bool.j2 k x6 x7 (x7.toList == ([84, 82, 85, 69] : List UInt8)))))
def word_Bool.j2 : Nat → Bool → ByteArray → Bool → Option (Bool × Bool)
  | 0, _, _, _ => none
  | k + 1, x6, x7, x26 => if x26 = true then (some (true, true)) else (if x7.toList = ([102, 97, 108, 115, 101] : List UInt8) then (some (x6, true)) else (if x7.toList = ([70, 97, 108, 115, 101] : List UInt8) then (some (x6, true)) else (if x7.toList = ([70, 65, 76, 83, 69] : List UInt8) then (some (x6, true)) else (some (false, false)))))
end
def word_Bool.f (k : Nat) (a0 : Int) (a1 : ByteArray) : Option (Bool × Bool) := if a1.toList = ([121] : List UInt8) then (word_Bool.j0 k a0 false a1 (a1.toList == ([121] : List UInt8))) else (if a1.toList = ([89] : List UInt8) then (word_Bool.j0 k a0 false a1 (a1.toList == ([89] : List UInt8))) else (if a1.toList = ([121, 101, 115] : List UInt8) then (word_Bool.j0 k a0 false a1 (a1.toList == ([121, 101, 115] : List UInt8))) else (if a1.toList = ([89, 101, 115] : List UInt8) then (word_Bool.j0 k a0 false a1 (a1.toList == ([89, 101, 115] : List UInt8))) else (if a1.toList = ([89, 69, 83] : List UInt8) then (word_Bool.j0 k a0 false a1 (a1.toList == ([89, 69, 83] : List UInt8))) else (if a1.toList = ([111, 110] : List UInt8) then (word_Bool.j0 k a0 false a1 (a1.toList == ([111, 110] : List UInt8))) else (if a1.toList = ([79, 110] : List UInt8) then (word_Bool.j0 k a0 false a1 (a1.toList == ([79, 110] : List UInt8))) else (word_Bool.j0 k a0 false a1 (a1.toList == ([79, 78] : List UInt8)))))))))
theorem word_Bool.mono_l : ∀ k, (∀ y0 y1 y2 y3, LeO (word_Bool.j0 k y0 y1 y2 y3) (word_Bool.j0 (k + 1) y0 y1 y2 y3)) ∧ (∀ y0 y1 y2 y3, LeO (word_Bool.j1 k y0 y1 y2 y3) (word_Bool.j1 (k + 1) y0 y1 y2 y3)) ∧ (∀ y0 y1 y2, LeO (word_Bool.j2 k y0 y1 y2) (word_Bool.j2 (k + 1) y0 y1 y2))
  | 0 => ⟨fun _ _ _ _ r h => by simp [word_Bool.j0] at h, fun _ _ _ _ r h => by simp [word_Bool.j1] at h, fun _ _ _ r h => by simp [word_Bool.j2] at h⟩
  | k + 1 => by
    obtain ⟨ih0, ih1, ih2⟩ := word_Bool.mono_l k
    refine ⟨?_, ?_, ?_⟩
    · intro y0 y1 y2 y3
      unfold word_Bool.j0
      repeat' first
      | (with_reducible exact ih0 _ _ _ _)
      | (with_reducible exact ih1 _ _ _ _)
      | (with_reducible exact ih2 _ _ _)
      | (with_reducible exact LeO.refl _)
      | (with_reducible exact LeO.none _)
      | (with_reducible refine LeO.ite ?_ ?_)
      | (with_reducible refine LeO.bind ?_ (fun _ => ?_))
      | exact ih0 _ _ _ _
      | exact ih1 _ _ _ _
      | exact ih2 _ _ _
      | exact LeO.none _
      | refine LeO.ite ?_ ?_
      | refine LeO.bind ?_ (fun _ => ?_)
    · intro y0 y1 y2 y3
      unfold word_Bool.j1
      repeat' first
      | (with_reducible exact ih0 _ _ _ _)
      | (with_reducible exact ih1 _ _ _ _)
      | (with_reducible exact ih2 _ _ _)
      | (with_reducible exact LeO.refl _)
      | (with_reducible exact LeO.none _)
      | (with_reducible refine LeO.ite ?_ ?_)
      | (with_reducible refine LeO.bind ?_ (fun _ => ?_))
      | exact ih0 _ _ _ _
      | exact ih1 _ _ _ _
      | exact ih2 _ _ _
      | exact LeO.none _
      | refine LeO.ite ?_ ?_
      | refine LeO.bind ?_ (fun _ => ?_)
    · intro y0 y1 y2
      unfold word_Bool.j2
      repeat' first
      | (with_reducible exact ih0 _ _ _ _)
      | (with_reducible exact ih1 _ _ _ _)
      | (with_reducible exact ih2 _ _ _)
      | (with_reducible exact LeO.refl _)
      | (with_reducible exact LeO.none _)
      | (with_reducible refine LeO.ite ?_ ?_)
      | (with_reducible refine LeO.bind ?_ (fun _ => ?_))
      | exact ih0 _ _ _ _
      | exact ih1 _ _ _ _
      | exact ih2 _ _ _
      | exact LeO.none _
      | refine LeO.ite ?_ ?_
      | refine LeO.bind ?_ (fun _ => ?_)
theorem word_Bool.mono : ∀ a0 a1 k, LeO (word_Bool.f k a0 a1) (word_Bool.f (k + 1) a0 a1) := by
  intro a0 a1 k
  obtain ⟨ih0, ih1, ih2⟩ := word_Bool.mono_l k
  unfold word_Bool.f
  repeat' first
      | (with_reducible exact ih0 _ _ _ _)
      | (with_reducible exact ih1 _ _ _ _)
      | (with_reducible exact ih2 _ _ _)
      | (with_reducible exact LeO.refl _)
      | (with_reducible exact LeO.none _)
      | (with_reducible refine LeO.ite ?_ ?_)
      | (with_reducible refine LeO.bind ?_ (fun _ => ?_))
      | exact ih0 _ _ _ _
      | exact ih1 _ _ _ _
      | exact ih2 _ _ _
      | exact LeO.none _
      | refine LeO.ite ?_ ?_
      | refine LeO.bind ?_ (fun _ => ?_)
set_option maxHeartbeats 8000000 in
set_option maxRecDepth 100000 in
theorem word_Bool.calls (k : Nat) (a0 : Int) (a1 : ByteArray) (r1 : Bool) (r2 : Bool) (w : World) (h : word_Bool.f k a0 a1 = some (r1, r2)) :
    Calls Try.prog 8 #[.int .i64 a0, .string a1] w fun e w' => e = .returned (.tuple #[.bool r1, .bool r2]) ∧ Drawn0 w w' := by
  have H : (if a1.toList = ([121] : List UInt8) then (word_Bool.j0 k a0 false a1 (a1.toList == ([121] : List UInt8))) else (if a1.toList = ([89] : List UInt8) then (word_Bool.j0 k a0 false a1 (a1.toList == ([89] : List UInt8))) else (if a1.toList = ([121, 101, 115] : List UInt8) then (word_Bool.j0 k a0 false a1 (a1.toList == ([121, 101, 115] : List UInt8))) else (if a1.toList = ([89, 101, 115] : List UInt8) then (word_Bool.j0 k a0 false a1 (a1.toList == ([89, 101, 115] : List UInt8))) else (if a1.toList = ([89, 69, 83] : List UInt8) then (word_Bool.j0 k a0 false a1 (a1.toList == ([89, 69, 83] : List UInt8))) else (if a1.toList = ([111, 110] : List UInt8) then (word_Bool.j0 k a0 false a1 (a1.toList == ([111, 110] : List UInt8))) else (if a1.toList = ([79, 110] : List UInt8) then (word_Bool.j0 k a0 false a1 (a1.toList == ([79, 110] : List UInt8))) else (word_Bool.j0 k a0 false a1 (a1.toList == ([79, 78] : List UInt8)))))))))) = some (r1, r2) := h
  clear h
  have HC3 := Aside0.mk H
  clear H
  go_enter Try.func8, Try.ntmps8
  go_upto_if 8 with (fail)
  go_cut [8] (fun v8 wc => ∃ (kq : Nat) (x8_2 : Bool), v8 = .bool x8_2 ∧ Aside0 (word_Bool.j0 kq a0 false a1 x8_2 = some (r1, r2)) ∧ Aside0 (kq ≤ k) ∧ Drawn0 w wc)
  case first =>
    have H := HC3.out
    clear HC3
    by_cases c4 : a1.toList = ([121] : List UInt8)
    · rw [if_pos c4] at H
      have c4b0 : (a1.toList == ([121] : List UInt8)) = true := beq_iff_eq.mpr c4
      have c4b1 : (a1.toList != ([121] : List UInt8)) = false := bne_eq_false_iff_eq.mpr c4
      clear c4
      (first | rw [c4b0] | (simp only [i64_w, i32_w]; rw [c4b0]) | skip)
      have H' := Aside0.mk H
      clear H
      go_wp2
      go_meet
      case rel => exact ⟨_, ((a1.toList == ([121] : List UInt8))), (by first | rfl | (simp; done) | (simp [*]; done) | (simp [wrap64]; done)), H', ⟨by first | omega | exact Nat.le_refl _⟩, by repeat (first | exact Drawn0.refl _ | apply Drawn0.step)⟩
    · rw [if_neg c4] at H
      have c4b0 : (a1.toList == ([121] : List UInt8)) = false := beq_eq_false_iff_ne.mpr c4
      have c4b1 : (a1.toList != ([121] : List UInt8)) = true := bne_iff_ne.mpr c4
      (first | rw [c4b0] | (simp only [i64_w, i32_w]; rw [c4b0]) | skip)
      by_cases c5 : a1.toList = ([89] : List UInt8)
      · rw [if_pos c5] at H
        have c5b0 : (a1.toList == ([89] : List UInt8)) = true := beq_iff_eq.mpr c5
        have c5b1 : (a1.toList != ([89] : List UInt8)) = false := bne_eq_false_iff_eq.mpr c5
        clear c5
        have H' := Aside0.mk H
        clear H
        go_wp2
        go_meet
        case rel => exact ⟨_, ((a1.toList == ([89] : List UInt8))), (by first | rfl | (simp; done) | (simp [*]; done) | (simp [wrap64]; done)), H', ⟨by first | omega | exact Nat.le_refl _⟩, by repeat (first | exact Drawn0.refl _ | apply Drawn0.step)⟩
      · rw [if_neg c5] at H
        have c5b0 : (a1.toList == ([89] : List UInt8)) = false := beq_eq_false_iff_ne.mpr c5
        have c5b1 : (a1.toList != ([89] : List UInt8)) = true := bne_iff_ne.mpr c5
        by_cases c6 : a1.toList = ([121, 101, 115] : List UInt8)
        · rw [if_pos c6] at H
          have c6b0 : (a1.toList == ([121, 101, 115] : List UInt8)) = true := beq_iff_eq.mpr c6
          have c6b1 : (a1.toList != ([121, 101, 115] : List UInt8)) = false := bne_eq_false_iff_eq.mpr c6
          clear c6
          have H' := Aside0.mk H
          clear H
          go_wp2
          go_meet
          case rel => exact ⟨_, ((a1.toList == ([121, 101, 115] : List UInt8))), (by first | rfl | (simp; done) | (simp [*]; done) | (simp [wrap64]; done)), H', ⟨by first | omega | exact Nat.le_refl _⟩, by repeat (first | exact Drawn0.refl _ | apply Drawn0.step)⟩
        · rw [if_neg c6] at H
          have c6b0 : (a1.toList == ([121, 101, 115] : List UInt8)) = false := beq_eq_false_iff_ne.mpr c6
          have c6b1 : (a1.toList != ([121, 101, 115] : List UInt8)) = true := bne_iff_ne.mpr c6
          by_cases c7 : a1.toList = ([89, 101, 115] : List UInt8)
          · rw [if_pos c7] at H
            have c7b0 : (a1.toList == ([89, 101, 115] : List UInt8)) = true := beq_iff_eq.mpr c7
            have c7b1 : (a1.toList != ([89, 101, 115] : List UInt8)) = false := bne_eq_false_iff_eq.mpr c7
            clear c7
            have H' := Aside0.mk H
            clear H
            go_wp2
            go_meet
            case rel => exact ⟨_, ((a1.toList == ([89, 101, 115] : List UInt8))), (by first | rfl | (simp; done) | (simp [*]; done) | (simp [wrap64]; done)), H', ⟨by first | omega | exact Nat.le_refl _⟩, by repeat (first | exact Drawn0.refl _ | apply Drawn0.step)⟩
          · rw [if_neg c7] at H
            have c7b0 : (a1.toList == ([89, 101, 115] : List UInt8)) = false := beq_eq_false_iff_ne.mpr c7
            have c7b1 : (a1.toList != ([89, 101, 115] : List UInt8)) = true := bne_iff_ne.mpr c7
            by_cases c8 : a1.toList = ([89, 69, 83] : List UInt8)
            · rw [if_pos c8] at H
              have c8b0 : (a1.toList == ([89, 69, 83] : List UInt8)) = true := beq_iff_eq.mpr c8
              have c8b1 : (a1.toList != ([89, 69, 83] : List UInt8)) = false := bne_eq_false_iff_eq.mpr c8
              clear c8
              have H' := Aside0.mk H
              clear H
              go_wp2
              go_meet
              case rel => exact ⟨_, ((a1.toList == ([89, 69, 83] : List UInt8))), (by first | rfl | (simp; done) | (simp [*]; done) | (simp [wrap64]; done)), H', ⟨by first | omega | exact Nat.le_refl _⟩, by repeat (first | exact Drawn0.refl _ | apply Drawn0.step)⟩
            · rw [if_neg c8] at H
              have c8b0 : (a1.toList == ([89, 69, 83] : List UInt8)) = false := beq_eq_false_iff_ne.mpr c8
              have c8b1 : (a1.toList != ([89, 69, 83] : List UInt8)) = true := bne_iff_ne.mpr c8
              by_cases c9 : a1.toList = ([111, 110] : List UInt8)
              · rw [if_pos c9] at H
                have c9b0 : (a1.toList == ([111, 110] : List UInt8)) = true := beq_iff_eq.mpr c9
                have c9b1 : (a1.toList != ([111, 110] : List UInt8)) = false := bne_eq_false_iff_eq.mpr c9
                clear c9
                have H' := Aside0.mk H
                clear H
                go_wp2
                go_meet
                case rel => exact ⟨_, ((a1.toList == ([111, 110] : List UInt8))), (by first | rfl | (simp; done) | (simp [*]; done) | (simp [wrap64]; done)), H', ⟨by first | omega | exact Nat.le_refl _⟩, by repeat (first | exact Drawn0.refl _ | apply Drawn0.step)⟩
              · rw [if_neg c9] at H
                have c9b0 : (a1.toList == ([111, 110] : List UInt8)) = false := beq_eq_false_iff_ne.mpr c9
                have c9b1 : (a1.toList != ([111, 110] : List UInt8)) = true := bne_iff_ne.mpr c9
                by_cases c10 : a1.toList = ([79, 110] : List UInt8)
                · rw [if_pos c10] at H
                  have c10b0 : (a1.toList == ([79, 110] : List UInt8)) = true := beq_iff_eq.mpr c10
                  have c10b1 : (a1.toList != ([79, 110] : List UInt8)) = false := bne_eq_false_iff_eq.mpr c10
                  clear c10
                  have H' := Aside0.mk H
                  clear H
                  go_wp2
                  go_meet
                  case rel => exact ⟨_, ((a1.toList == ([79, 110] : List UInt8))), (by first | rfl | (simp; done) | (simp [*]; done) | (simp [wrap64]; done)), H', ⟨by first | omega | exact Nat.le_refl _⟩, by repeat (first | exact Drawn0.refl _ | apply Drawn0.step)⟩
                · rw [if_neg c10] at H
                  have c10b0 : (a1.toList == ([79, 110] : List UInt8)) = false := beq_eq_false_iff_ne.mpr c10
                  have c10b1 : (a1.toList != ([79, 110] : List UInt8)) = true := bne_iff_ne.mpr c10
                  have H' := Aside0.mk H
                  clear H
                  go_wp2
                  go_meet
                  case rel => exact ⟨_, ((a1.toList == ([79, 78] : List UInt8))), (by first | rfl | (simp; done) | (simp [*]; done) | (simp [wrap64]; done)), H', ⟨by first | omega | exact Nat.le_refl _⟩, by repeat (first | exact Drawn0.refl _ | apply Drawn0.step)⟩
  case rest =>
    clear HC3
    try clear c1
    try clear p2
    try clear c4
    try clear c4b0
    try clear c4b1
    try clear c5
    try clear c5b0
    try clear c5b1
    try clear c6
    try clear c6b0
    try clear c6b1
    try clear c7
    try clear c7b0
    try clear c7b1
    try clear c8
    try clear c8b0
    try clear c8b1
    try clear c9
    try clear c9b0
    try clear c9b1
    try clear c10
    try clear c10b0
    try clear c10b1
    obtain ⟨kq, x8_2, rfl, HA, HJ2, ⟨mc2, rfl⟩⟩ := hcut
    cases kq with
    | zero => exact absurd HA.out (by simp [word_Bool.j0])
    | succ kj2 =>
      have H := HA.out
      clear HA
      simp only [word_Bool.j0] at H
      by_cases c11 : x8_2 = true
      · subst c11
        have H1 : (some ((a0 == 11), (a0 == 11))) = some (r1, r2) := by rw [if_pos rfl] at H; exact H
        clear H
        have H := H1
        clear H1
        simp only [Option.some.injEq, Prod.mk.injEq] at H
        obtain ⟨rfl, rfl⟩ := H
        go_wp2
        go_ret2
        exact ⟨by first | rfl | (simp; done) | (simp [*]; done) | (simp [wrap64]; done), by repeat (first | exact Drawn0.refl _ | apply Drawn0.step)⟩
      · replace c11 := Bool.eq_false_iff.mpr c11
        subst c11
        have H1 : (if a1.toList = ([110] : List UInt8) then (word_Bool.j1 kj2 a0 false a1 (a1.toList == ([110] : List UInt8))) else (if a1.toList = ([78] : List UInt8) then (word_Bool.j1 kj2 a0 false a1 (a1.toList == ([78] : List UInt8))) else (if a1.toList = ([110, 111] : List UInt8) then (word_Bool.j1 kj2 a0 false a1 (a1.toList == ([110, 111] : List UInt8))) else (if a1.toList = ([78, 111] : List UInt8) then (word_Bool.j1 kj2 a0 false a1 (a1.toList == ([78, 111] : List UInt8))) else (if a1.toList = ([78, 79] : List UInt8) then (word_Bool.j1 kj2 a0 false a1 (a1.toList == ([78, 79] : List UInt8))) else (if a1.toList = ([111, 102, 102] : List UInt8) then (word_Bool.j1 kj2 a0 false a1 (a1.toList == ([111, 102, 102] : List UInt8))) else (if a1.toList = ([79, 102, 102] : List UInt8) then (word_Bool.j1 kj2 a0 false a1 (a1.toList == ([79, 102, 102] : List UInt8))) else (word_Bool.j1 kj2 a0 false a1 (a1.toList == ([79, 70, 70] : List UInt8)))))))))) = some (r1, r2) := by rw [if_neg (show ¬ (false = true) by decide)] at H; exact H
        clear H
        have H := H1
        clear H1
        have HC12 := Aside0.mk H
        clear H
        go_upto_if 17 with (fail)
        go_cut [17] (fun v17 wc => ∃ (kq : Nat) (x17_11 : Bool), v17 = .bool x17_11 ∧ Aside0 (word_Bool.j1 kq a0 false a1 x17_11 = some (r1, r2)) ∧ Aside0 (kq ≤ kj2) ∧ Drawn0 w wc)
        case first =>
          have H := HC12.out
          clear HC12
          by_cases c13 : a1.toList = ([110] : List UInt8)
          · rw [if_pos c13] at H
            have c13b0 : (a1.toList == ([110] : List UInt8)) = true := beq_iff_eq.mpr c13
            have c13b1 : (a1.toList != ([110] : List UInt8)) = false := bne_eq_false_iff_eq.mpr c13
            clear c13
            (first | rw [c13b0] | (simp only [i64_w, i32_w]; rw [c13b0]) | skip)
            have H' := Aside0.mk H
            clear H
            go_wp2
            go_meet
            case rel => exact ⟨_, ((a1.toList == ([110] : List UInt8))), (by first | rfl | (simp; done) | (simp [*]; done) | (simp [wrap64]; done)), H', ⟨by have := HJ2.out; first | omega | exact Nat.le_refl _⟩, by repeat (first | exact Drawn0.refl _ | apply Drawn0.step)⟩
          · rw [if_neg c13] at H
            have c13b0 : (a1.toList == ([110] : List UInt8)) = false := beq_eq_false_iff_ne.mpr c13
            have c13b1 : (a1.toList != ([110] : List UInt8)) = true := bne_iff_ne.mpr c13
            (first | rw [c13b0] | (simp only [i64_w, i32_w]; rw [c13b0]) | skip)
            by_cases c14 : a1.toList = ([78] : List UInt8)
            · rw [if_pos c14] at H
              have c14b0 : (a1.toList == ([78] : List UInt8)) = true := beq_iff_eq.mpr c14
              have c14b1 : (a1.toList != ([78] : List UInt8)) = false := bne_eq_false_iff_eq.mpr c14
              clear c14
              have H' := Aside0.mk H
              clear H
              go_wp2
              go_meet
              case rel => exact ⟨_, ((a1.toList == ([78] : List UInt8))), (by first | rfl | (simp; done) | (simp [*]; done) | (simp [wrap64]; done)), H', ⟨by have := HJ2.out; first | omega | exact Nat.le_refl _⟩, by repeat (first | exact Drawn0.refl _ | apply Drawn0.step)⟩
            · rw [if_neg c14] at H
              have c14b0 : (a1.toList == ([78] : List UInt8)) = false := beq_eq_false_iff_ne.mpr c14
              have c14b1 : (a1.toList != ([78] : List UInt8)) = true := bne_iff_ne.mpr c14
              by_cases c15 : a1.toList = ([110, 111] : List UInt8)
              · rw [if_pos c15] at H
                have c15b0 : (a1.toList == ([110, 111] : List UInt8)) = true := beq_iff_eq.mpr c15
                have c15b1 : (a1.toList != ([110, 111] : List UInt8)) = false := bne_eq_false_iff_eq.mpr c15
                clear c15
                have H' := Aside0.mk H
                clear H
                go_wp2
                go_meet
                case rel => exact ⟨_, ((a1.toList == ([110, 111] : List UInt8))), (by first | rfl | (simp; done) | (simp [*]; done) | (simp [wrap64]; done)), H', ⟨by have := HJ2.out; first | omega | exact Nat.le_refl _⟩, by repeat (first | exact Drawn0.refl _ | apply Drawn0.step)⟩
              · rw [if_neg c15] at H
                have c15b0 : (a1.toList == ([110, 111] : List UInt8)) = false := beq_eq_false_iff_ne.mpr c15
                have c15b1 : (a1.toList != ([110, 111] : List UInt8)) = true := bne_iff_ne.mpr c15
                by_cases c16 : a1.toList = ([78, 111] : List UInt8)
                · rw [if_pos c16] at H
                  have c16b0 : (a1.toList == ([78, 111] : List UInt8)) = true := beq_iff_eq.mpr c16
                  have c16b1 : (a1.toList != ([78, 111] : List UInt8)) = false := bne_eq_false_iff_eq.mpr c16
                  clear c16
                  have H' := Aside0.mk H
                  clear H
                  go_wp2
                  go_meet
                  case rel => exact ⟨_, ((a1.toList == ([78, 111] : List UInt8))), (by first | rfl | (simp; done) | (simp [*]; done) | (simp [wrap64]; done)), H', ⟨by have := HJ2.out; first | omega | exact Nat.le_refl _⟩, by repeat (first | exact Drawn0.refl _ | apply Drawn0.step)⟩
                · rw [if_neg c16] at H
                  have c16b0 : (a1.toList == ([78, 111] : List UInt8)) = false := beq_eq_false_iff_ne.mpr c16
                  have c16b1 : (a1.toList != ([78, 111] : List UInt8)) = true := bne_iff_ne.mpr c16
                  by_cases c17 : a1.toList = ([78, 79] : List UInt8)
                  · rw [if_pos c17] at H
                    have c17b0 : (a1.toList == ([78, 79] : List UInt8)) = true := beq_iff_eq.mpr c17
                    have c17b1 : (a1.toList != ([78, 79] : List UInt8)) = false := bne_eq_false_iff_eq.mpr c17
                    clear c17
                    have H' := Aside0.mk H
                    clear H
                    go_wp2
                    go_meet
                    case rel => exact ⟨_, ((a1.toList == ([78, 79] : List UInt8))), (by first | rfl | (simp; done) | (simp [*]; done) | (simp [wrap64]; done)), H', ⟨by have := HJ2.out; first | omega | exact Nat.le_refl _⟩, by repeat (first | exact Drawn0.refl _ | apply Drawn0.step)⟩
                  · rw [if_neg c17] at H
                    have c17b0 : (a1.toList == ([78, 79] : List UInt8)) = false := beq_eq_false_iff_ne.mpr c17
                    have c17b1 : (a1.toList != ([78, 79] : List UInt8)) = true := bne_iff_ne.mpr c17
                    by_cases c18 : a1.toList = ([111, 102, 102] : List UInt8)
                    · rw [if_pos c18] at H
                      have c18b0 : (a1.toList == ([111, 102, 102] : List UInt8)) = true := beq_iff_eq.mpr c18
                      have c18b1 : (a1.toList != ([111, 102, 102] : List UInt8)) = false := bne_eq_false_iff_eq.mpr c18
                      clear c18
                      have H' := Aside0.mk H
                      clear H
                      go_wp2
                      go_meet
                      case rel => exact ⟨_, ((a1.toList == ([111, 102, 102] : List UInt8))), (by first | rfl | (simp; done) | (simp [*]; done) | (simp [wrap64]; done)), H', ⟨by have := HJ2.out; first | omega | exact Nat.le_refl _⟩, by repeat (first | exact Drawn0.refl _ | apply Drawn0.step)⟩
                    · rw [if_neg c18] at H
                      have c18b0 : (a1.toList == ([111, 102, 102] : List UInt8)) = false := beq_eq_false_iff_ne.mpr c18
                      have c18b1 : (a1.toList != ([111, 102, 102] : List UInt8)) = true := bne_iff_ne.mpr c18
                      by_cases c19 : a1.toList = ([79, 102, 102] : List UInt8)
                      · rw [if_pos c19] at H
                        have c19b0 : (a1.toList == ([79, 102, 102] : List UInt8)) = true := beq_iff_eq.mpr c19
                        have c19b1 : (a1.toList != ([79, 102, 102] : List UInt8)) = false := bne_eq_false_iff_eq.mpr c19
                        clear c19
                        have H' := Aside0.mk H
                        clear H
                        go_wp2
                        go_meet
                        case rel => exact ⟨_, ((a1.toList == ([79, 102, 102] : List UInt8))), (by first | rfl | (simp; done) | (simp [*]; done) | (simp [wrap64]; done)), H', ⟨by have := HJ2.out; first | omega | exact Nat.le_refl _⟩, by repeat (first | exact Drawn0.refl _ | apply Drawn0.step)⟩
                      · rw [if_neg c19] at H
                        have c19b0 : (a1.toList == ([79, 102, 102] : List UInt8)) = false := beq_eq_false_iff_ne.mpr c19
                        have c19b1 : (a1.toList != ([79, 102, 102] : List UInt8)) = true := bne_iff_ne.mpr c19
                        have H' := Aside0.mk H
                        clear H
                        go_wp2
                        go_meet
                        case rel => exact ⟨_, ((a1.toList == ([79, 70, 70] : List UInt8))), (by first | rfl | (simp; done) | (simp [*]; done) | (simp [wrap64]; done)), H', ⟨by have := HJ2.out; first | omega | exact Nat.le_refl _⟩, by repeat (first | exact Drawn0.refl _ | apply Drawn0.step)⟩
        case rest =>
          clear HC12
          try clear c1
          try clear c2
          try clear p2
          try clear c4
          try clear c4b0
          try clear c4b1
          try clear c5
          try clear c5b0
          try clear c5b1
          try clear c6
          try clear c6b0
          try clear c6b1
          try clear c7
          try clear c7b0
          try clear c7b1
          try clear c8
          try clear c8b0
          try clear c8b1
          try clear c9
          try clear c9b0
          try clear c9b1
          try clear c10
          try clear c10b0
          try clear c10b1
          try clear c11
          try clear c13
          try clear c13b0
          try clear c13b1
          try clear c14
          try clear c14b0
          try clear c14b1
          try clear c15
          try clear c15b0
          try clear c15b1
          try clear c16
          try clear c16b0
          try clear c16b1
          try clear c17
          try clear c17b0
          try clear c17b1
          try clear c18
          try clear c18b0
          try clear c18b1
          try clear c19
          try clear c19b0
          try clear c19b1
          try clear p2
          obtain ⟨kq, x17_11, rfl, HA, HJ11, ⟨mc11, rfl⟩⟩ := hcut
          cases kq with
          | zero => exact absurd HA.out (by simp [word_Bool.j1])
          | succ kj11 =>
            have H := HA.out
            clear HA
            simp only [word_Bool.j1] at H
            by_cases c20 : x17_11 = true
            · subst c20
              have H1 : (if false = true then (some ((a0 == 11), (a0 == 11))) else (some (false, (a0 == 11)))) = some (r1, r2) := by rw [if_pos rfl] at H; exact H
              clear H
              have H := H1
              clear H1
              by_cases c21 : false = true
              · exact absurd c21 (by decide)
              · replace c21 := Bool.eq_false_iff.mpr c21
                clear c21
                have H1 : (some (false, (a0 == 11))) = some (r1, r2) := by rw [if_neg (show ¬ (false = true) by decide)] at H; exact H
                clear H
                have H := H1
                clear H1
                simp only [Option.some.injEq, Prod.mk.injEq] at H
                obtain ⟨rfl, rfl⟩ := H
                go_wp2
                go_ret2
                exact ⟨by first | rfl | (simp; done) | (simp [*]; done) | (simp [wrap64]; done), by repeat (first | exact Drawn0.refl _ | apply Drawn0.step)⟩
            · replace c20 := Bool.eq_false_iff.mpr c20
              subst c20
              have H1 : (if a1.toList = ([116, 114, 117, 101] : List UInt8) then (word_Bool.j2 kj11 false a1 (a1.toList == ([116, 114, 117, 101] : List UInt8))) else (if a1.toList = ([84, 114, 117, 101] : List UInt8) then (word_Bool.j2 kj11 false a1 (a1.toList == ([84, 114, 117, 101] : List UInt8))) else (word_Bool.j2 kj11 false a1 (a1.toList == ([84, 82, 85, 69] : List UInt8))))) = some (r1, r2) := by rw [if_neg (show ¬ (false = true) by decide)] at H; exact H
              clear H
              have H := H1
              clear H1
              have HC22 := Aside0.mk H
              clear H
              go_upto_if 26 with (fail)
              go_cut [26] (fun v26 wc => ∃ (kq : Nat) (x26_21 : Bool), v26 = .bool x26_21 ∧ Aside0 (word_Bool.j2 kq false a1 x26_21 = some (r1, r2)) ∧ Aside0 (kq ≤ kj11) ∧ Drawn0 w wc)
              case first =>
                have H := HC22.out
                clear HC22
                by_cases c23 : a1.toList = ([116, 114, 117, 101] : List UInt8)
                · rw [if_pos c23] at H
                  have c23b0 : (a1.toList == ([116, 114, 117, 101] : List UInt8)) = true := beq_iff_eq.mpr c23
                  have c23b1 : (a1.toList != ([116, 114, 117, 101] : List UInt8)) = false := bne_eq_false_iff_eq.mpr c23
                  clear c23
                  (first | rw [c23b0] | (simp only [i64_w, i32_w]; rw [c23b0]) | skip)
                  have H' := Aside0.mk H
                  clear H
                  go_wp2
                  go_meet
                  case rel => exact ⟨_, ((a1.toList == ([116, 114, 117, 101] : List UInt8))), (by first | rfl | (simp; done) | (simp [*]; done) | (simp [wrap64]; done)), H', ⟨by have := HJ2.out; have := HJ11.out; first | omega | exact Nat.le_refl _⟩, by repeat (first | exact Drawn0.refl _ | apply Drawn0.step)⟩
                · rw [if_neg c23] at H
                  have c23b0 : (a1.toList == ([116, 114, 117, 101] : List UInt8)) = false := beq_eq_false_iff_ne.mpr c23
                  have c23b1 : (a1.toList != ([116, 114, 117, 101] : List UInt8)) = true := bne_iff_ne.mpr c23
                  (first | rw [c23b0] | (simp only [i64_w, i32_w]; rw [c23b0]) | skip)
                  by_cases c24 : a1.toList = ([84, 114, 117, 101] : List UInt8)
                  · rw [if_pos c24] at H
                    have c24b0 : (a1.toList == ([84, 114, 117, 101] : List UInt8)) = true := beq_iff_eq.mpr c24
                    have c24b1 : (a1.toList != ([84, 114, 117, 101] : List UInt8)) = false := bne_eq_false_iff_eq.mpr c24
                    clear c24
                    have H' := Aside0.mk H
                    clear H
                    go_wp2
                    go_meet
                    case rel => exact ⟨_, ((a1.toList == ([84, 114, 117, 101] : List UInt8))), (by first | rfl | (simp; done) | (simp [*]; done) | (simp [wrap64]; done)), H', ⟨by have := HJ2.out; have := HJ11.out; first | omega | exact Nat.le_refl _⟩, by repeat (first | exact Drawn0.refl _ | apply Drawn0.step)⟩
                  · rw [if_neg c24] at H
                    have c24b0 : (a1.toList == ([84, 114, 117, 101] : List UInt8)) = false := beq_eq_false_iff_ne.mpr c24
                    have c24b1 : (a1.toList != ([84, 114, 117, 101] : List UInt8)) = true := bne_iff_ne.mpr c24
                    have H' := Aside0.mk H
                    clear H
                    go_wp2
                    go_meet
                    case rel => exact ⟨_, ((a1.toList == ([84, 82, 85, 69] : List UInt8))), (by first | rfl | (simp; done) | (simp [*]; done) | (simp [wrap64]; done)), H', ⟨by have := HJ2.out; have := HJ11.out; first | omega | exact Nat.le_refl _⟩, by repeat (first | exact Drawn0.refl _ | apply Drawn0.step)⟩
              case rest =>
                clear HC22
                try clear c1
                try clear c2
                try clear p2
                try clear c4
                try clear c4b0
                try clear c4b1
                try clear c5
                try clear c5b0
                try clear c5b1
                try clear c6
                try clear c6b0
                try clear c6b1
                try clear c7
                try clear c7b0
                try clear c7b1
                try clear c8
                try clear c8b0
                try clear c8b1
                try clear c9
                try clear c9b0
                try clear c9b1
                try clear c10
                try clear c10b0
                try clear c10b1
                try clear c11
                try clear c13
                try clear c13b0
                try clear c13b1
                try clear c14
                try clear c14b0
                try clear c14b1
                try clear c15
                try clear c15b0
                try clear c15b1
                try clear c16
                try clear c16b0
                try clear c16b1
                try clear c17
                try clear c17b0
                try clear c17b1
                try clear c18
                try clear c18b0
                try clear c18b1
                try clear c19
                try clear c19b0
                try clear c19b1
                try clear c20
                try clear c21
                try clear c23
                try clear c23b0
                try clear c23b1
                try clear c24
                try clear c24b0
                try clear c24b1
                try clear p2
                obtain ⟨kq, x26_21, rfl, HA, HJ21, ⟨mc21, rfl⟩⟩ := hcut
                cases kq with
                | zero => exact absurd HA.out (by simp [word_Bool.j2])
                | succ kj21 =>
                  have H := HA.out
                  clear HA
                  simp only [word_Bool.j2] at H
                  by_cases c25 : x26_21 = true
                  · subst c25
                    have H1 : (some (true, true)) = some (r1, r2) := by rw [if_pos rfl] at H; exact H
                    clear H
                    have H := H1
                    clear H1
                    simp only [Option.some.injEq, Prod.mk.injEq] at H
                    obtain ⟨rfl, rfl⟩ := H
                    go_wp2
                    go_ret2
                    exact ⟨by first | rfl | (simp; done) | (simp [*]; done) | (simp [wrap64]; done), by repeat (first | exact Drawn0.refl _ | apply Drawn0.step)⟩
                  · replace c25 := Bool.eq_false_iff.mpr c25
                    subst c25
                    have H1 : (if a1.toList = ([102, 97, 108, 115, 101] : List UInt8) then (some (false, true)) else (if a1.toList = ([70, 97, 108, 115, 101] : List UInt8) then (some (false, true)) else (if a1.toList = ([70, 65, 76, 83, 69] : List UInt8) then (some (false, true)) else (some (false, false))))) = some (r1, r2) := by rw [if_neg (show ¬ (false = true) by decide)] at H; exact H
                    clear H
                    have H := H1
                    clear H1
                    by_cases c26 : a1.toList = ([102, 97, 108, 115, 101] : List UInt8)
                    · rw [if_pos c26] at H
                      have c26b0 : (a1.toList == ([102, 97, 108, 115, 101] : List UInt8)) = true := beq_iff_eq.mpr c26
                      have c26b1 : (a1.toList != ([102, 97, 108, 115, 101] : List UInt8)) = false := bne_eq_false_iff_eq.mpr c26
                      clear c26
                      simp only [Option.some.injEq, Prod.mk.injEq] at H
                      obtain ⟨rfl, rfl⟩ := H
                      go_wp2
                      go_ret2
                      exact ⟨by first | rfl | (simp; done) | (simp [*]; done) | (simp [wrap64]; done), by repeat (first | exact Drawn0.refl _ | apply Drawn0.step)⟩
                    · rw [if_neg c26] at H
                      have c26b0 : (a1.toList == ([102, 97, 108, 115, 101] : List UInt8)) = false := beq_eq_false_iff_ne.mpr c26
                      have c26b1 : (a1.toList != ([102, 97, 108, 115, 101] : List UInt8)) = true := bne_iff_ne.mpr c26
                      by_cases c27 : a1.toList = ([70, 97, 108, 115, 101] : List UInt8)
                      · rw [if_pos c27] at H
                        have c27b0 : (a1.toList == ([70, 97, 108, 115, 101] : List UInt8)) = true := beq_iff_eq.mpr c27
                        have c27b1 : (a1.toList != ([70, 97, 108, 115, 101] : List UInt8)) = false := bne_eq_false_iff_eq.mpr c27
                        clear c27
                        simp only [Option.some.injEq, Prod.mk.injEq] at H
                        obtain ⟨rfl, rfl⟩ := H
                        go_wp2
                        go_ret2
                        exact ⟨by first | rfl | (simp; done) | (simp [*]; done) | (simp [wrap64]; done), by repeat (first | exact Drawn0.refl _ | apply Drawn0.step)⟩
                      · rw [if_neg c27] at H
                        have c27b0 : (a1.toList == ([70, 97, 108, 115, 101] : List UInt8)) = false := beq_eq_false_iff_ne.mpr c27
                        have c27b1 : (a1.toList != ([70, 97, 108, 115, 101] : List UInt8)) = true := bne_iff_ne.mpr c27
                        by_cases c28 : a1.toList = ([70, 65, 76, 83, 69] : List UInt8)
                        · rw [if_pos c28] at H
                          have c28b0 : (a1.toList == ([70, 65, 76, 83, 69] : List UInt8)) = true := beq_iff_eq.mpr c28
                          have c28b1 : (a1.toList != ([70, 65, 76, 83, 69] : List UInt8)) = false := bne_eq_false_iff_eq.mpr c28
                          clear c28
                          simp only [Option.some.injEq, Prod.mk.injEq] at H
                          obtain ⟨rfl, rfl⟩ := H
                          go_wp2
                          go_ret2
                          exact ⟨by first | rfl | (simp; done) | (simp [*]; done) | (simp [wrap64]; done), by repeat (first | exact Drawn0.refl _ | apply Drawn0.step)⟩
                        · rw [if_neg c28] at H
                          have c28b0 : (a1.toList == ([70, 65, 76, 83, 69] : List UInt8)) = false := beq_eq_false_iff_ne.mpr c28
                          have c28b1 : (a1.toList != ([70, 65, 76, 83, 69] : List UInt8)) = true := bne_iff_ne.mpr c28
                          simp only [Option.some.injEq, Prod.mk.injEq] at H
                          obtain ⟨rfl, rfl⟩ := H
                          go_wp2
                          go_ret2
                          exact ⟨by first | rfl | (simp; done) | (simp [*]; done) | (simp [wrap64]; done), by repeat (first | exact Drawn0.refl _ | apply Drawn0.step)⟩

/-! ### word_Null: function 10 -/
def word_Null.f (a0 : ByteArray) : Option (Bool) := if a0.toList = ([] : List UInt8) then (some true) else (if a0.toList = ([126] : List UInt8) then (some true) else (if a0.toList = ([110, 117, 108, 108] : List UInt8) then (some true) else (if a0.toList = ([78, 117, 108, 108] : List UInt8) then (some true) else (if a0.toList = ([78, 85, 76, 76] : List UInt8) then (some true) else (some false)))))
set_option maxHeartbeats 8000000 in
set_option maxRecDepth 100000 in
theorem word_Null.calls (a0 : ByteArray) (r : Bool) (w : World) (h : word_Null.f a0 = some r) :
    Calls Try.prog 10 #[.string a0] w fun e w' => e = .returned (.bool r) ∧ Drawn0 w w' := by
  have H : (if a0.toList = ([] : List UInt8) then (some true) else (if a0.toList = ([126] : List UInt8) then (some true) else (if a0.toList = ([110, 117, 108, 108] : List UInt8) then (some true) else (if a0.toList = ([78, 117, 108, 108] : List UInt8) then (some true) else (if a0.toList = ([78, 85, 76, 76] : List UInt8) then (some true) else (some false)))))) = some r := h
  clear h
  by_cases c2 : a0.toList = ([] : List UInt8)
  · rw [if_pos c2] at H
    have c2b0 : (a0.toList == ([] : List UInt8)) = true := beq_iff_eq.mpr c2
    have c2b1 : (a0.toList != ([] : List UInt8)) = false := bne_eq_false_iff_eq.mpr c2
    clear c2
    obtain rfl := Option.some.inj H
    go_enter Try.func10, Try.ntmps10
    go_wp2
    go_ret
    exact ⟨by first | rfl | (simp; done) | (simp [*]; done) | (simp [wrap64]; done), by repeat (first | exact Drawn0.refl _ | apply Drawn0.step)⟩
  · rw [if_neg c2] at H
    have c2b0 : (a0.toList == ([] : List UInt8)) = false := beq_eq_false_iff_ne.mpr c2
    have c2b1 : (a0.toList != ([] : List UInt8)) = true := bne_iff_ne.mpr c2
    by_cases c3 : a0.toList = ([126] : List UInt8)
    · rw [if_pos c3] at H
      have c3b0 : (a0.toList == ([126] : List UInt8)) = true := beq_iff_eq.mpr c3
      have c3b1 : (a0.toList != ([126] : List UInt8)) = false := bne_eq_false_iff_eq.mpr c3
      clear c3
      obtain rfl := Option.some.inj H
      go_enter Try.func10, Try.ntmps10
      go_wp2
      go_ret
      exact ⟨by first | rfl | (simp; done) | (simp [*]; done) | (simp [wrap64]; done), by repeat (first | exact Drawn0.refl _ | apply Drawn0.step)⟩
    · rw [if_neg c3] at H
      have c3b0 : (a0.toList == ([126] : List UInt8)) = false := beq_eq_false_iff_ne.mpr c3
      have c3b1 : (a0.toList != ([126] : List UInt8)) = true := bne_iff_ne.mpr c3
      by_cases c4 : a0.toList = ([110, 117, 108, 108] : List UInt8)
      · rw [if_pos c4] at H
        have c4b0 : (a0.toList == ([110, 117, 108, 108] : List UInt8)) = true := beq_iff_eq.mpr c4
        have c4b1 : (a0.toList != ([110, 117, 108, 108] : List UInt8)) = false := bne_eq_false_iff_eq.mpr c4
        clear c4
        obtain rfl := Option.some.inj H
        go_enter Try.func10, Try.ntmps10
        go_wp2
        go_ret
        exact ⟨by first | rfl | (simp; done) | (simp [*]; done) | (simp [wrap64]; done), by repeat (first | exact Drawn0.refl _ | apply Drawn0.step)⟩
      · rw [if_neg c4] at H
        have c4b0 : (a0.toList == ([110, 117, 108, 108] : List UInt8)) = false := beq_eq_false_iff_ne.mpr c4
        have c4b1 : (a0.toList != ([110, 117, 108, 108] : List UInt8)) = true := bne_iff_ne.mpr c4
        by_cases c5 : a0.toList = ([78, 117, 108, 108] : List UInt8)
        · rw [if_pos c5] at H
          have c5b0 : (a0.toList == ([78, 117, 108, 108] : List UInt8)) = true := beq_iff_eq.mpr c5
          have c5b1 : (a0.toList != ([78, 117, 108, 108] : List UInt8)) = false := bne_eq_false_iff_eq.mpr c5
          clear c5
          obtain rfl := Option.some.inj H
          go_enter Try.func10, Try.ntmps10
          go_wp2
          go_ret
          exact ⟨by first | rfl | (simp; done) | (simp [*]; done) | (simp [wrap64]; done), by repeat (first | exact Drawn0.refl _ | apply Drawn0.step)⟩
        · rw [if_neg c5] at H
          have c5b0 : (a0.toList == ([78, 117, 108, 108] : List UInt8)) = false := beq_eq_false_iff_ne.mpr c5
          have c5b1 : (a0.toList != ([78, 117, 108, 108] : List UInt8)) = true := bne_iff_ne.mpr c5
          by_cases c6 : a0.toList = ([78, 85, 76, 76] : List UInt8)
          · rw [if_pos c6] at H
            have c6b0 : (a0.toList == ([78, 85, 76, 76] : List UInt8)) = true := beq_iff_eq.mpr c6
            have c6b1 : (a0.toList != ([78, 85, 76, 76] : List UInt8)) = false := bne_eq_false_iff_eq.mpr c6
            clear c6
            obtain rfl := Option.some.inj H
            go_enter Try.func10, Try.ntmps10
            go_wp2
            go_ret
            exact ⟨by first | rfl | (simp; done) | (simp [*]; done) | (simp [wrap64]; done), by repeat (first | exact Drawn0.refl _ | apply Drawn0.step)⟩
          · rw [if_neg c6] at H
            have c6b0 : (a0.toList == ([78, 85, 76, 76] : List UInt8)) = false := beq_eq_false_iff_ne.mpr c6
            have c6b1 : (a0.toList != ([78, 85, 76, 76] : List UInt8)) = true := bne_iff_ne.mpr c6
            obtain rfl := Option.some.inj H
            go_enter Try.func10, Try.ntmps10
            go_wp2
            go_ret
            exact ⟨by first | rfl | (simp; done) | (simp [*]; done) | (simp [wrap64]; done), by repeat (first | exact Drawn0.refl _ | apply Drawn0.step)⟩

/-! ### word_Merge: function 12 -/
def word_Merge.f (a0 : ByteArray) : Option (Bool) := some (a0.toList == ([60, 60] : List UInt8))
set_option maxHeartbeats 8000000 in
set_option maxRecDepth 100000 in
theorem word_Merge.calls (a0 : ByteArray) (r : Bool) (w : World) (h : word_Merge.f a0 = some r) :
    Calls Try.prog 12 #[.string a0] w fun e w' => e = .returned (.bool r) ∧ Drawn0 w w' := by
  have H : (some (a0.toList == ([60, 60] : List UInt8))) = some r := h
  clear h
  obtain rfl := Option.some.inj H
  go_enter Try.func12, Try.ntmps12
  go_wp2
  go_ret
  exact ⟨by first | rfl | (simp; done) | (simp [*]; done) | (simp [wrap64]; done), by repeat (first | exact Drawn0.refl _ | apply Drawn0.step)⟩

/-! ### word_letter: function 17 -/
def word_letter.f (a0 : Int) : Option (Bool) := if a0 ≥ 97 then (if a0 ≤ 122 then (some true) else (if a0 ≥ 65 then (some (decide (a0 ≤ 90))) else (some false))) else (if a0 ≥ 65 then (some (decide (a0 ≤ 90))) else (some false))
set_option maxHeartbeats 8000000 in
set_option maxRecDepth 100000 in
theorem word_letter.calls (a0 : Int) (r : Bool) (w : World) (h : word_letter.f a0 = some r) :
    Calls Try.prog 17 #[.int .u8 a0] w fun e w' => e = .returned (.bool r) ∧ Drawn0 w w' := by
  have H : (if a0 ≥ 97 then (if a0 ≤ 122 then (some true) else (if a0 ≥ 65 then (some (decide (a0 ≤ 90))) else (some false))) else (if a0 ≥ 65 then (some (decide (a0 ≤ 90))) else (some false))) = some r := h
  clear h
  by_cases c2 : a0 ≥ 97
  · rw [if_pos c2] at H
    have c2b0 : decide (97 ≤ a0) = true := decide_eq_true c2
    clear c2
    by_cases c3 : a0 ≤ 122
    · rw [if_pos c3] at H
      have c3b0 : decide (a0 ≤ 122) = true := decide_eq_true c3
      clear c3
      obtain rfl := Option.some.inj H
      go_enter Try.func17, Try.ntmps17
      go_wp2
      go_ret
      exact ⟨by first | rfl | (simp; done) | (simp [*]; done) | (simp [wrap64]; done), by repeat (first | exact Drawn0.refl _ | apply Drawn0.step)⟩
    · rw [if_neg c3] at H
      have c3b0 : decide (a0 ≤ 122) = false := decide_eq_false c3
      clear c3
      by_cases c4 : a0 ≥ 65
      · rw [if_pos c4] at H
        have c4b0 : decide (65 ≤ a0) = true := decide_eq_true c4
        clear c4
        obtain rfl := Option.some.inj H
        go_enter Try.func17, Try.ntmps17
        go_wp2
        go_ret
        exact ⟨by first | rfl | (simp; done) | (simp [*]; done) | (simp [wrap64]; done), by repeat (first | exact Drawn0.refl _ | apply Drawn0.step)⟩
      · rw [if_neg c4] at H
        have c4b0 : decide (65 ≤ a0) = false := decide_eq_false c4
        clear c4
        obtain rfl := Option.some.inj H
        go_enter Try.func17, Try.ntmps17
        go_wp2
        go_ret
        exact ⟨by first | rfl | (simp; done) | (simp [*]; done) | (simp [wrap64]; done), by repeat (first | exact Drawn0.refl _ | apply Drawn0.step)⟩
  · rw [if_neg c2] at H
    have c2b0 : decide (97 ≤ a0) = false := decide_eq_false c2
    clear c2
    by_cases c5 : a0 ≥ 65
    · rw [if_pos c5] at H
      have c5b0 : decide (65 ≤ a0) = true := decide_eq_true c5
      clear c5
      obtain rfl := Option.some.inj H
      go_enter Try.func17, Try.ntmps17
      go_wp2
      go_ret
      exact ⟨by first | rfl | (simp; done) | (simp [*]; done) | (simp [wrap64]; done), by repeat (first | exact Drawn0.refl _ | apply Drawn0.step)⟩
    · rw [if_neg c5] at H
      have c5b0 : decide (65 ≤ a0) = false := decide_eq_false c5
      clear c5
      obtain rfl := Option.some.inj H
      go_enter Try.func17, Try.ntmps17
      go_wp2
      go_ret
      exact ⟨by first | rfl | (simp; done) | (simp [*]; done) | (simp [wrap64]; done), by repeat (first | exact Drawn0.refl _ | apply Drawn0.step)⟩

end Go.Proofs.Ytkphlddgfmgogaa.PZ
