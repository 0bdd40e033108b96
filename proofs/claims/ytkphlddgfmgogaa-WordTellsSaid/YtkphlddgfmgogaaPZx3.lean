/- Written by this session's own program (xprint, made over the kit's print): Lean functions with the same answers as the Go functions, and the proofs of that. Not trusted: Lean checks it. -/
import Derived.Test.YtkphlddgfmgogaaPZx0
namespace Go.Proofs.Ytkphlddgfmgogaa.PZ
open Go.RowKit Go.Proofs.YtkphlddgfmgogaaW.PrintWords Go.Proofs.YtkphlddgfmgogaaW.PrintLast Go.Proofs.YtkphlddgfmgogaaW.PrintMore
attribute [local go_sem] max2_int min2_int max_two min_two max_three min_three max_four min_four   -- for this text's walks alone
set_option linter.unusedVariables false
set_option linter.unusedSimpArgs false

/-! ### targumref6_Bool: function 9 -/
mutual
def targumref6_Bool.j0 : Nat → Int → ByteArray → ByteArray → Bool → Option (Bool × Bool)
  | 0, _, _, _, _ => none
  | k + 1, x0, x1, x6, x7 => if x7 = true then (some (true, true)) else (if x6.toList = ([102, 97, 108, 115, 101] : List UInt8) then (some (false, true)) else (if x6.toList = ([70, 97, 108, 115, 101] : List UInt8) then (some (false, true)) else (if x6.toList = ([70, 65, 76, 83, 69] : List UInt8) then (some (false, true)) else (if x0 = 11 then (if x1.toList = ([121] : List UInt8) then (targumref6_Bool.j1 k x1 (x1.toList == ([121] : List UInt8))) else (if x1.toList = ([89] : List UInt8) then (targumref6_Bool.j1 k x1 (x1.toList == ([89] : List UInt8))) else (if x1.toList = ([121, 101, 115] : List UInt8) then (targumref6_Bool.j1 k x1 (x1.toList == ([121, 101, 115] : List UInt8))) else (if x1.toList = ([89, 101, 115] : List UInt8) then (targumref6_Bool.j1 k x1 (x1.toList == ([89, 101, 115] : List UInt8))) else (if x1.toList = ([89, 69, 83] : List UInt8) then (targumref6_Bool.j1 k x1 (x1.toList == ([89, 69, 83] : List UInt8))) else (if x1.toList = ([111, 110] : List UInt8) then (targumref6_Bool.j1 k x1 (x1.toList == ([111, 110] : List UInt8))) else (if x1.toList = ([79, 110] : List UInt8) then (targumref6_Bool.j1 k x1 (x1.toList == ([79, 110] : List UInt8))) else (targumref6_Bool.j1 k x1 (x1.toList == ([79, 78] : List UInt8)))))))))) else (some (false, false))))))
def targumref6_Bool.j1 : Nat → ByteArray → Bool → Option (Bool × Bool)
  | 0, _, _ => none
  | k + 1, x17, x18 => if x18 = true then (some (true, true)) else (if x17.toList = ([110] : List UInt8) then (some (false, true)) else (if x17.toList = ([78] : List UInt8) then (some (false, true)) else (if x17.toList = ([110, 111] : List UInt8) then (some (false, true)) else (if x17.toList = ([78, 111] : List UInt8) then (some (false, true)) else (if x17.toList = ([78, 79] : List UInt8) then (some (false, true)) else (if x17.toList = ([111, 102, 102] : List UInt8) then (some (false, true)) else (if x17.toList = ([79, 102, 102] : List UInt8) then (some (false, true)) else (if x17.toList = ([79, 70, 70] : List UInt8) then (some (false, true)) else (some (false, false))))))))))
end
def targumref6_Bool.f (k : Nat) (a0 : Int) (a1 : ByteArray) : Option (Bool × Bool) := if a1.toList = ([116, 114, 117, 101] : List UInt8) then (targumref6_Bool.j0 k a0 a1 a1 (a1.toList == ([116, 114, 117, 101] : List UInt8))) else (if a1.toList = ([84, 114, 117, 101] : List UInt8) then (targumref6_Bool.j0 k a0 a1 a1 (a1.toList == ([84, 114, 117, 101] : List UInt8))) else (targumref6_Bool.j0 k a0 a1 a1 (a1.toList == ([84, 82, 85, 69] : List UInt8))))
theorem targumref6_Bool.mono_l : ∀ k, (∀ y0 y1 y2 y3, LeO (targumref6_Bool.j0 k y0 y1 y2 y3) (targumref6_Bool.j0 (k + 1) y0 y1 y2 y3)) ∧ (∀ y0 y1, LeO (targumref6_Bool.j1 k y0 y1) (targumref6_Bool.j1 (k + 1) y0 y1))
  | 0 => ⟨fun _ _ _ _ r h => by simp [targumref6_Bool.j0] at h, fun _ _ r h => by simp [targumref6_Bool.j1] at h⟩
  | k + 1 => by
    obtain ⟨ih0, ih1⟩ := targumref6_Bool.mono_l k
    refine ⟨?_, ?_⟩
    · intro y0 y1 y2 y3
      unfold targumref6_Bool.j0
      repeat' first
      | (with_reducible exact ih0 _ _ _ _)
      | (with_reducible exact ih1 _ _)
      | (with_reducible exact LeO.refl _)
      | (with_reducible exact LeO.none _)
      | (with_reducible refine LeO.ite ?_ ?_)
      | (with_reducible refine LeO.bind ?_ (fun _ => ?_))
      | exact ih0 _ _ _ _
      | exact ih1 _ _
      | exact LeO.none _
      | refine LeO.ite ?_ ?_
      | refine LeO.bind ?_ (fun _ => ?_)
    · intro y0 y1
      unfold targumref6_Bool.j1
      repeat' first
      | (with_reducible exact ih0 _ _ _ _)
      | (with_reducible exact ih1 _ _)
      | (with_reducible exact LeO.refl _)
      | (with_reducible exact LeO.none _)
      | (with_reducible refine LeO.ite ?_ ?_)
      | (with_reducible refine LeO.bind ?_ (fun _ => ?_))
      | exact ih0 _ _ _ _
      | exact ih1 _ _
      | exact LeO.none _
      | refine LeO.ite ?_ ?_
      | refine LeO.bind ?_ (fun _ => ?_)
theorem targumref6_Bool.mono : ∀ a0 a1 k, LeO (targumref6_Bool.f k a0 a1) (targumref6_Bool.f (k + 1) a0 a1) := by
  intro a0 a1 k
  obtain ⟨ih0, ih1⟩ := targumref6_Bool.mono_l k
  unfold targumref6_Bool.f
  repeat' first
      | (with_reducible exact ih0 _ _ _ _)
      | (with_reducible exact ih1 _ _)
      | (with_reducible exact LeO.refl _)
      | (with_reducible exact LeO.none _)
      | (with_reducible refine LeO.ite ?_ ?_)
      | (with_reducible refine LeO.bind ?_ (fun _ => ?_))
      | exact ih0 _ _ _ _
      | exact ih1 _ _
      | exact LeO.none _
      | refine LeO.ite ?_ ?_
      | refine LeO.bind ?_ (fun _ => ?_)
set_option maxHeartbeats 8000000 in
set_option maxRecDepth 100000 in
theorem targumref6_Bool.calls (k : Nat) (a0 : Int) (a1 : ByteArray) (r1 : Bool) (r2 : Bool) (w : World) (h : targumref6_Bool.f k a0 a1 = some (r1, r2)) :
    Calls Try.prog 9 #[.int .i64 a0, .string a1] w fun e w' => e = .returned (.tuple #[.bool r1, .bool r2]) ∧ Drawn0 w w' := by
  have H : (if a1.toList = ([116, 114, 117, 101] : List UInt8) then (targumref6_Bool.j0 k a0 a1 a1 (a1.toList == ([116, 114, 117, 101] : List UInt8))) else (if a1.toList = ([84, 114, 117, 101] : List UInt8) then (targumref6_Bool.j0 k a0 a1 a1 (a1.toList == ([84, 114, 117, 101] : List UInt8))) else (targumref6_Bool.j0 k a0 a1 a1 (a1.toList == ([84, 82, 85, 69] : List UInt8))))) = some (r1, r2) := h
  clear h
  have HC3 := Aside0.mk H
  clear H
  go_enter Try.func9, Try.ntmps9
  go_upto_if 7 with (fail)
  go_cut [7] (fun v7 wc => ∃ (kq : Nat) (x7_2 : Bool), v7 = .bool x7_2 ∧ Aside0 (targumref6_Bool.j0 kq a0 a1 a1 x7_2 = some (r1, r2)) ∧ Aside0 (kq ≤ k) ∧ Drawn0 w wc)
  case first =>
    have H := HC3.out
    clear HC3
    by_cases c4 : a1.toList = ([116, 114, 117, 101] : List UInt8)
    · rw [if_pos c4] at H
      have c4b0 : (a1.toList == ([116, 114, 117, 101] : List UInt8)) = true := beq_iff_eq.mpr c4
      have c4b1 : (a1.toList != ([116, 114, 117, 101] : List UInt8)) = false := bne_eq_false_iff_eq.mpr c4
      clear c4
      (first | rw [c4b0] | (simp only [i64_w, i32_w]; rw [c4b0]) | skip)
      have H' := Aside0.mk H
      clear H
      go_wp2
      go_meet
      case rel => exact ⟨_, ((a1.toList == ([116, 114, 117, 101] : List UInt8))), (by first | rfl | (simp; done) | (simp [*]; done) | (simp [wrap64]; done)), H', ⟨by first | omega | exact Nat.le_refl _⟩, by repeat (first | exact Drawn0.refl _ | apply Drawn0.step)⟩
    · rw [if_neg c4] at H
      have c4b0 : (a1.toList == ([116, 114, 117, 101] : List UInt8)) = false := beq_eq_false_iff_ne.mpr c4
      have c4b1 : (a1.toList != ([116, 114, 117, 101] : List UInt8)) = true := bne_iff_ne.mpr c4
      (first | rw [c4b0] | (simp only [i64_w, i32_w]; rw [c4b0]) | skip)
      by_cases c5 : a1.toList = ([84, 114, 117, 101] : List UInt8)
      · rw [if_pos c5] at H
        have c5b0 : (a1.toList == ([84, 114, 117, 101] : List UInt8)) = true := beq_iff_eq.mpr c5
        have c5b1 : (a1.toList != ([84, 114, 117, 101] : List UInt8)) = false := bne_eq_false_iff_eq.mpr c5
        clear c5
        have H' := Aside0.mk H
        clear H
        go_wp2
        go_meet
        case rel => exact ⟨_, ((a1.toList == ([84, 114, 117, 101] : List UInt8))), (by first | rfl | (simp; done) | (simp [*]; done) | (simp [wrap64]; done)), H', ⟨by first | omega | exact Nat.le_refl _⟩, by repeat (first | exact Drawn0.refl _ | apply Drawn0.step)⟩
      · rw [if_neg c5] at H
        have c5b0 : (a1.toList == ([84, 114, 117, 101] : List UInt8)) = false := beq_eq_false_iff_ne.mpr c5
        have c5b1 : (a1.toList != ([84, 114, 117, 101] : List UInt8)) = true := bne_iff_ne.mpr c5
        have H' := Aside0.mk H
        clear H
        go_wp2
        go_meet
        case rel => exact ⟨_, ((a1.toList == ([84, 82, 85, 69] : List UInt8))), (by first | rfl | (simp; done) | (simp [*]; done) | (simp [wrap64]; done)), H', ⟨by first | omega | exact Nat.le_refl _⟩, by repeat (first | exact Drawn0.refl _ | apply Drawn0.step)⟩
  case rest =>
    clear HC3
    try clear p2
    try clear c4
    try clear c4b0
    try clear c4b1
    try clear c5
    try clear c5b0
    try clear c5b1
    obtain ⟨kq, x7_2, rfl, HA, HJ2, ⟨mc2, rfl⟩⟩ := hcut
    cases kq with
    | zero => exact absurd HA.out (by simp [targumref6_Bool.j0])
    | succ kj2 =>
      have H := HA.out
      clear HA
      simp only [targumref6_Bool.j0] at H
      by_cases c6 : x7_2 = true
      · subst c6
        have H1 : (some (true, true)) = some (r1, r2) := by rw [if_pos rfl] at H; exact H
        clear H
        have H := H1
        clear H1
        simp only [Option.some.injEq, Prod.mk.injEq] at H
        obtain ⟨rfl, rfl⟩ := H
        go_wp2
        go_ret2
        exact ⟨by first | rfl | (simp; done) | (simp [*]; done) | (simp [wrap64]; done), by repeat (first | exact Drawn0.refl _ | apply Drawn0.step)⟩
      · replace c6 := Bool.eq_false_iff.mpr c6
        subst c6
        have H1 : (if a1.toList = ([102, 97, 108, 115, 101] : List UInt8) then (some (false, true)) else (if a1.toList = ([70, 97, 108, 115, 101] : List UInt8) then (some (false, true)) else (if a1.toList = ([70, 65, 76, 83, 69] : List UInt8) then (some (false, true)) else (if a0 = 11 then (if a1.toList = ([121] : List UInt8) then (targumref6_Bool.j1 kj2 a1 (a1.toList == ([121] : List UInt8))) else (if a1.toList = ([89] : List UInt8) then (targumref6_Bool.j1 kj2 a1 (a1.toList == ([89] : List UInt8))) else (if a1.toList = ([121, 101, 115] : List UInt8) then (targumref6_Bool.j1 kj2 a1 (a1.toList == ([121, 101, 115] : List UInt8))) else (if a1.toList = ([89, 101, 115] : List UInt8) then (targumref6_Bool.j1 kj2 a1 (a1.toList == ([89, 101, 115] : List UInt8))) else (if a1.toList = ([89, 69, 83] : List UInt8) then (targumref6_Bool.j1 kj2 a1 (a1.toList == ([89, 69, 83] : List UInt8))) else (if a1.toList = ([111, 110] : List UInt8) then (targumref6_Bool.j1 kj2 a1 (a1.toList == ([111, 110] : List UInt8))) else (if a1.toList = ([79, 110] : List UInt8) then (targumref6_Bool.j1 kj2 a1 (a1.toList == ([79, 110] : List UInt8))) else (targumref6_Bool.j1 kj2 a1 (a1.toList == ([79, 78] : List UInt8)))))))))) else (some (false, false)))))) = some (r1, r2) := by rw [if_neg (show ¬ (false = true) by decide)] at H; exact H
        clear H
        have H := H1
        clear H1
        by_cases c7 : a1.toList = ([102, 97, 108, 115, 101] : List UInt8)
        · rw [if_pos c7] at H
          have c7b0 : (a1.toList == ([102, 97, 108, 115, 101] : List UInt8)) = true := beq_iff_eq.mpr c7
          have c7b1 : (a1.toList != ([102, 97, 108, 115, 101] : List UInt8)) = false := bne_eq_false_iff_eq.mpr c7
          clear c7
          simp only [Option.some.injEq, Prod.mk.injEq] at H
          obtain ⟨rfl, rfl⟩ := H
          go_wp2
          go_ret2
          exact ⟨by first | rfl | (simp; done) | (simp [*]; done) | (simp [wrap64]; done), by repeat (first | exact Drawn0.refl _ | apply Drawn0.step)⟩
        · rw [if_neg c7] at H
          have c7b0 : (a1.toList == ([102, 97, 108, 115, 101] : List UInt8)) = false := beq_eq_false_iff_ne.mpr c7
          have c7b1 : (a1.toList != ([102, 97, 108, 115, 101] : List UInt8)) = true := bne_iff_ne.mpr c7
          by_cases c8 : a1.toList = ([70, 97, 108, 115, 101] : List UInt8)
          · rw [if_pos c8] at H
            have c8b0 : (a1.toList == ([70, 97, 108, 115, 101] : List UInt8)) = true := beq_iff_eq.mpr c8
            have c8b1 : (a1.toList != ([70, 97, 108, 115, 101] : List UInt8)) = false := bne_eq_false_iff_eq.mpr c8
            clear c8
            simp only [Option.some.injEq, Prod.mk.injEq] at H
            obtain ⟨rfl, rfl⟩ := H
            go_wp2
            go_ret2
            exact ⟨by first | rfl | (simp; done) | (simp [*]; done) | (simp [wrap64]; done), by repeat (first | exact Drawn0.refl _ | apply Drawn0.step)⟩
          · rw [if_neg c8] at H
            have c8b0 : (a1.toList == ([70, 97, 108, 115, 101] : List UInt8)) = false := beq_eq_false_iff_ne.mpr c8
            have c8b1 : (a1.toList != ([70, 97, 108, 115, 101] : List UInt8)) = true := bne_iff_ne.mpr c8
            by_cases c9 : a1.toList = ([70, 65, 76, 83, 69] : List UInt8)
            · rw [if_pos c9] at H
              have c9b0 : (a1.toList == ([70, 65, 76, 83, 69] : List UInt8)) = true := beq_iff_eq.mpr c9
              have c9b1 : (a1.toList != ([70, 65, 76, 83, 69] : List UInt8)) = false := bne_eq_false_iff_eq.mpr c9
              clear c9
              simp only [Option.some.injEq, Prod.mk.injEq] at H
              obtain ⟨rfl, rfl⟩ := H
              go_wp2
              go_ret2
              exact ⟨by first | rfl | (simp; done) | (simp [*]; done) | (simp [wrap64]; done), by repeat (first | exact Drawn0.refl _ | apply Drawn0.step)⟩
            · rw [if_neg c9] at H
              have c9b0 : (a1.toList == ([70, 65, 76, 83, 69] : List UInt8)) = false := beq_eq_false_iff_ne.mpr c9
              have c9b1 : (a1.toList != ([70, 65, 76, 83, 69] : List UInt8)) = true := bne_iff_ne.mpr c9
              by_cases c10 : a0 = 11
              · rw [if_pos c10] at H
                have c10b0 : (a0 == 11) = true := beq_iff_eq.mpr c10
                have c10b1 : (a0 != 11) = false := bne_eq_false_iff_eq.mpr c10
                clear c10
                have HC11 := Aside0.mk H
                clear H
                go_upto_if 18 with (fail)
                go_cut [18] (fun v18 wc => ∃ (kq : Nat) (x18_10 : Bool), v18 = .bool x18_10 ∧ Aside0 (targumref6_Bool.j1 kq a1 x18_10 = some (r1, r2)) ∧ Aside0 (kq ≤ kj2) ∧ Drawn0 w wc)
                case first =>
                  have H := HC11.out
                  clear HC11
                  by_cases c12 : a1.toList = ([121] : List UInt8)
                  · rw [if_pos c12] at H
                    have c12b0 : (a1.toList == ([121] : List UInt8)) = true := beq_iff_eq.mpr c12
                    have c12b1 : (a1.toList != ([121] : List UInt8)) = false := bne_eq_false_iff_eq.mpr c12
                    clear c12
                    (first | rw [c12b0] | (simp only [i64_w, i32_w]; rw [c12b0]) | skip)
                    have H' := Aside0.mk H
                    clear H
                    go_wp2
                    go_meet
                    case rel => exact ⟨_, ((a1.toList == ([121] : List UInt8))), (by first | rfl | (simp; done) | (simp [*]; done) | (simp [wrap64]; done)), H', ⟨by have := HJ2.out; first | omega | exact Nat.le_refl _⟩, by repeat (first | exact Drawn0.refl _ | apply Drawn0.step)⟩
                  · rw [if_neg c12] at H
                    have c12b0 : (a1.toList == ([121] : List UInt8)) = false := beq_eq_false_iff_ne.mpr c12
                    have c12b1 : (a1.toList != ([121] : List UInt8)) = true := bne_iff_ne.mpr c12
                    (first | rw [c12b0] | (simp only [i64_w, i32_w]; rw [c12b0]) | skip)
                    by_cases c13 : a1.toList = ([89] : List UInt8)
                    · rw [if_pos c13] at H
                      have c13b0 : (a1.toList == ([89] : List UInt8)) = true := beq_iff_eq.mpr c13
                      have c13b1 : (a1.toList != ([89] : List UInt8)) = false := bne_eq_false_iff_eq.mpr c13
                      clear c13
                      have H' := Aside0.mk H
                      clear H
                      go_wp2
                      go_meet
                      case rel => exact ⟨_, ((a1.toList == ([89] : List UInt8))), (by first | rfl | (simp; done) | (simp [*]; done) | (simp [wrap64]; done)), H', ⟨by have := HJ2.out; first | omega | exact Nat.le_refl _⟩, by repeat (first | exact Drawn0.refl _ | apply Drawn0.step)⟩
                    · rw [if_neg c13] at H
                      have c13b0 : (a1.toList == ([89] : List UInt8)) = false := beq_eq_false_iff_ne.mpr c13
                      have c13b1 : (a1.toList != ([89] : List UInt8)) = true := bne_iff_ne.mpr c13
                      by_cases c14 : a1.toList = ([121, 101, 115] : List UInt8)
                      · rw [if_pos c14] at H
                        have c14b0 : (a1.toList == ([121, 101, 115] : List UInt8)) = true := beq_iff_eq.mpr c14
                        have c14b1 : (a1.toList != ([121, 101, 115] : List UInt8)) = false := bne_eq_false_iff_eq.mpr c14
                        clear c14
                        have H' := Aside0.mk H
                        clear H
                        go_wp2
                        go_meet
                        case rel => exact ⟨_, ((a1.toList == ([121, 101, 115] : List UInt8))), (by first | rfl | (simp; done) | (simp [*]; done) | (simp [wrap64]; done)), H', ⟨by have := HJ2.out; first | omega | exact Nat.le_refl _⟩, by repeat (first | exact Drawn0.refl _ | apply Drawn0.step)⟩
                      · rw [if_neg c14] at H
                        have c14b0 : (a1.toList == ([121, 101, 115] : List UInt8)) = false := beq_eq_false_iff_ne.mpr c14
                        have c14b1 : (a1.toList != ([121, 101, 115] : List UInt8)) = true := bne_iff_ne.mpr c14
                        by_cases c15 : a1.toList = ([89, 101, 115] : List UInt8)
                        · rw [if_pos c15] at H
                          have c15b0 : (a1.toList == ([89, 101, 115] : List UInt8)) = true := beq_iff_eq.mpr c15
                          have c15b1 : (a1.toList != ([89, 101, 115] : List UInt8)) = false := bne_eq_false_iff_eq.mpr c15
                          clear c15
                          have H' := Aside0.mk H
                          clear H
                          go_wp2
                          go_meet
                          case rel => exact ⟨_, ((a1.toList == ([89, 101, 115] : List UInt8))), (by first | rfl | (simp; done) | (simp [*]; done) | (simp [wrap64]; done)), H', ⟨by have := HJ2.out; first | omega | exact Nat.le_refl _⟩, by repeat (first | exact Drawn0.refl _ | apply Drawn0.step)⟩
                        · rw [if_neg c15] at H
                          have c15b0 : (a1.toList == ([89, 101, 115] : List UInt8)) = false := beq_eq_false_iff_ne.mpr c15
                          have c15b1 : (a1.toList != ([89, 101, 115] : List UInt8)) = true := bne_iff_ne.mpr c15
                          by_cases c16 : a1.toList = ([89, 69, 83] : List UInt8)
                          · rw [if_pos c16] at H
                            have c16b0 : (a1.toList == ([89, 69, 83] : List UInt8)) = true := beq_iff_eq.mpr c16
                            have c16b1 : (a1.toList != ([89, 69, 83] : List UInt8)) = false := bne_eq_false_iff_eq.mpr c16
                            clear c16
                            have H' := Aside0.mk H
                            clear H
                            go_wp2
                            go_meet
                            case rel => exact ⟨_, ((a1.toList == ([89, 69, 83] : List UInt8))), (by first | rfl | (simp; done) | (simp [*]; done) | (simp [wrap64]; done)), H', ⟨by have := HJ2.out; first | omega | exact Nat.le_refl _⟩, by repeat (first | exact Drawn0.refl _ | apply Drawn0.step)⟩
                          · rw [if_neg c16] at H
                            have c16b0 : (a1.toList == ([89, 69, 83] : List UInt8)) = false := beq_eq_false_iff_ne.mpr c16
                            have c16b1 : (a1.toList != ([89, 69, 83] : List UInt8)) = true := bne_iff_ne.mpr c16
                            by_cases c17 : a1.toList = ([111, 110] : List UInt8)
                            · rw [if_pos c17] at H
                              have c17b0 : (a1.toList == ([111, 110] : List UInt8)) = true := beq_iff_eq.mpr c17
                              have c17b1 : (a1.toList != ([111, 110] : List UInt8)) = false := bne_eq_false_iff_eq.mpr c17
                              clear c17
                              have H' := Aside0.mk H
                              clear H
                              go_wp2
                              go_meet
                              case rel => exact ⟨_, ((a1.toList == ([111, 110] : List UInt8))), (by first | rfl | (simp; done) | (simp [*]; done) | (simp [wrap64]; done)), H', ⟨by have := HJ2.out; first | omega | exact Nat.le_refl _⟩, by repeat (first | exact Drawn0.refl _ | apply Drawn0.step)⟩
                            · rw [if_neg c17] at H
                              have c17b0 : (a1.toList == ([111, 110] : List UInt8)) = false := beq_eq_false_iff_ne.mpr c17
                              have c17b1 : (a1.toList != ([111, 110] : List UInt8)) = true := bne_iff_ne.mpr c17
                              by_cases c18 : a1.toList = ([79, 110] : List UInt8)
                              · rw [if_pos c18] at H
                                have c18b0 : (a1.toList == ([79, 110] : List UInt8)) = true := beq_iff_eq.mpr c18
                                have c18b1 : (a1.toList != ([79, 110] : List UInt8)) = false := bne_eq_false_iff_eq.mpr c18
                                clear c18
                                have H' := Aside0.mk H
                                clear H
                                go_wp2
                                go_meet
                                case rel => exact ⟨_, ((a1.toList == ([79, 110] : List UInt8))), (by first | rfl | (simp; done) | (simp [*]; done) | (simp [wrap64]; done)), H', ⟨by have := HJ2.out; first | omega | exact Nat.le_refl _⟩, by repeat (first | exact Drawn0.refl _ | apply Drawn0.step)⟩
                              · rw [if_neg c18] at H
                                have c18b0 : (a1.toList == ([79, 110] : List UInt8)) = false := beq_eq_false_iff_ne.mpr c18
                                have c18b1 : (a1.toList != ([79, 110] : List UInt8)) = true := bne_iff_ne.mpr c18
                                have H' := Aside0.mk H
                                clear H
                                go_wp2
                                go_meet
                                case rel => exact ⟨_, ((a1.toList == ([79, 78] : List UInt8))), (by first | rfl | (simp; done) | (simp [*]; done) | (simp [wrap64]; done)), H', ⟨by have := HJ2.out; first | omega | exact Nat.le_refl _⟩, by repeat (first | exact Drawn0.refl _ | apply Drawn0.step)⟩
                case rest =>
                  clear HC11
                  try clear c1
                  try clear c2
                  try clear p2
                  try clear c4
                  try clear c4b0
                  try clear c4b1
                  try clear c5
                  try clear c5b0
                  try clear c5b1
                  try clear c6
                  try clear c7
                  try clear c7b0
                  try clear c7b1
                  try clear c8
                  try clear c8b0
                  try clear c8b1
                  try clear c9
                  try clear c9b0
                  try clear c9b1
                  try clear c10
                  try clear c10b0
                  try clear c10b1
                  try clear c12
                  try clear c12b0
                  try clear c12b1
                  try clear c13
                  try clear c13b0
                  try clear c13b1
                  try clear c14
                  try clear c14b0
                  try clear c14b1
                  try clear c15
                  try clear c15b0
                  try clear c15b1
                  try clear c16
                  try clear c16b0
                  try clear c16b1
                  try clear c17
                  try clear c17b0
                  try clear c17b1
                  try clear c18
                  try clear c18b0
                  try clear c18b1
                  try clear p2
                  obtain ⟨kq, x18_10, rfl, HA, HJ10, ⟨mc10, rfl⟩⟩ := hcut
                  cases kq with
                  | zero => exact absurd HA.out (by simp [targumref6_Bool.j1])
                  | succ kj10 =>
                    have H := HA.out
                    clear HA
                    simp only [targumref6_Bool.j1] at H
                    by_cases c19 : x18_10 = true
                    · subst c19
                      have H1 : (some (true, true)) = some (r1, r2) := by rw [if_pos rfl] at H; exact H
                      clear H
                      have H := H1
                      clear H1
                      simp only [Option.some.injEq, Prod.mk.injEq] at H
                      obtain ⟨rfl, rfl⟩ := H
                      go_wp2
                      go_ret2
                      exact ⟨by first | rfl | (simp; done) | (simp [*]; done) | (simp [wrap64]; done), by repeat (first | exact Drawn0.refl _ | apply Drawn0.step)⟩
                    · replace c19 := Bool.eq_false_iff.mpr c19
                      subst c19
                      have H1 : (if a1.toList = ([110] : List UInt8) then (some (false, true)) else (if a1.toList = ([78] : List UInt8) then (some (false, true)) else (if a1.toList = ([110, 111] : List UInt8) then (some (false, true)) else (if a1.toList = ([78, 111] : List UInt8) then (some (false, true)) else (if a1.toList = ([78, 79] : List UInt8) then (some (false, true)) else (if a1.toList = ([111, 102, 102] : List UInt8) then (some (false, true)) else (if a1.toList = ([79, 102, 102] : List UInt8) then (some (false, true)) else (if a1.toList = ([79, 70, 70] : List UInt8) then (some (false, true)) else (some (false, false)))))))))) = some (r1, r2) := by rw [if_neg (show ¬ (false = true) by decide)] at H; exact H
                      clear H
                      have H := H1
                      clear H1
                      by_cases c20 : a1.toList = ([110] : List UInt8)
                      · rw [if_pos c20] at H
                        have c20b0 : (a1.toList == ([110] : List UInt8)) = true := beq_iff_eq.mpr c20
                        have c20b1 : (a1.toList != ([110] : List UInt8)) = false := bne_eq_false_iff_eq.mpr c20
                        clear c20
                        simp only [Option.some.injEq, Prod.mk.injEq] at H
                        obtain ⟨rfl, rfl⟩ := H
                        go_wp2
                        go_ret2
                        exact ⟨by first | rfl | (simp; done) | (simp [*]; done) | (simp [wrap64]; done), by repeat (first | exact Drawn0.refl _ | apply Drawn0.step)⟩
                      · rw [if_neg c20] at H
                        have c20b0 : (a1.toList == ([110] : List UInt8)) = false := beq_eq_false_iff_ne.mpr c20
                        have c20b1 : (a1.toList != ([110] : List UInt8)) = true := bne_iff_ne.mpr c20
                        by_cases c21 : a1.toList = ([78] : List UInt8)
                        · rw [if_pos c21] at H
                          have c21b0 : (a1.toList == ([78] : List UInt8)) = true := beq_iff_eq.mpr c21
                          have c21b1 : (a1.toList != ([78] : List UInt8)) = false := bne_eq_false_iff_eq.mpr c21
                          clear c21
                          simp only [Option.some.injEq, Prod.mk.injEq] at H
                          obtain ⟨rfl, rfl⟩ := H
                          go_wp2
                          go_ret2
                          exact ⟨by first | rfl | (simp; done) | (simp [*]; done) | (simp [wrap64]; done), by repeat (first | exact Drawn0.refl _ | apply Drawn0.step)⟩
                        · rw [if_neg c21] at H
                          have c21b0 : (a1.toList == ([78] : List UInt8)) = false := beq_eq_false_iff_ne.mpr c21
                          have c21b1 : (a1.toList != ([78] : List UInt8)) = true := bne_iff_ne.mpr c21
                          by_cases c22 : a1.toList = ([110, 111] : List UInt8)
                          · rw [if_pos c22] at H
                            have c22b0 : (a1.toList == ([110, 111] : List UInt8)) = true := beq_iff_eq.mpr c22
                            have c22b1 : (a1.toList != ([110, 111] : List UInt8)) = false := bne_eq_false_iff_eq.mpr c22
                            clear c22
                            simp only [Option.some.injEq, Prod.mk.injEq] at H
                            obtain ⟨rfl, rfl⟩ := H
                            go_wp2
                            go_ret2
                            exact ⟨by first | rfl | (simp; done) | (simp [*]; done) | (simp [wrap64]; done), by repeat (first | exact Drawn0.refl _ | apply Drawn0.step)⟩
                          · rw [if_neg c22] at H
                            have c22b0 : (a1.toList == ([110, 111] : List UInt8)) = false := beq_eq_false_iff_ne.mpr c22
                            have c22b1 : (a1.toList != ([110, 111] : List UInt8)) = true := bne_iff_ne.mpr c22
                            by_cases c23 : a1.toList = ([78, 111] : List UInt8)
                            · rw [if_pos c23] at H
                              have c23b0 : (a1.toList == ([78, 111] : List UInt8)) = true := beq_iff_eq.mpr c23
                              have c23b1 : (a1.toList != ([78, 111] : List UInt8)) = false := bne_eq_false_iff_eq.mpr c23
                              clear c23
                              simp only [Option.some.injEq, Prod.mk.injEq] at H
                              obtain ⟨rfl, rfl⟩ := H
                              go_wp2
                              go_ret2
                              exact ⟨by first | rfl | (simp; done) | (simp [*]; done) | (simp [wrap64]; done), by repeat (first | exact Drawn0.refl _ | apply Drawn0.step)⟩
                            · rw [if_neg c23] at H
                              have c23b0 : (a1.toList == ([78, 111] : List UInt8)) = false := beq_eq_false_iff_ne.mpr c23
                              have c23b1 : (a1.toList != ([78, 111] : List UInt8)) = true := bne_iff_ne.mpr c23
                              by_cases c24 : a1.toList = ([78, 79] : List UInt8)
                              · rw [if_pos c24] at H
                                have c24b0 : (a1.toList == ([78, 79] : List UInt8)) = true := beq_iff_eq.mpr c24
                                have c24b1 : (a1.toList != ([78, 79] : List UInt8)) = false := bne_eq_false_iff_eq.mpr c24
                                clear c24
                                simp only [Option.some.injEq, Prod.mk.injEq] at H
                                obtain ⟨rfl, rfl⟩ := H
                                go_wp2
                                go_ret2
                                exact ⟨by first | rfl | (simp; done) | (simp [*]; done) | (simp [wrap64]; done), by repeat (first | exact Drawn0.refl _ | apply Drawn0.step)⟩
                              · rw [if_neg c24] at H
                                have c24b0 : (a1.toList == ([78, 79] : List UInt8)) = false := beq_eq_false_iff_ne.mpr c24
                                have c24b1 : (a1.toList != ([78, 79] : List UInt8)) = true := bne_iff_ne.mpr c24
                                by_cases c25 : a1.toList = ([111, 102, 102] : List UInt8)
                                · rw [if_pos c25] at H
                                  have c25b0 : (a1.toList == ([111, 102, 102] : List UInt8)) = true := beq_iff_eq.mpr c25
                                  have c25b1 : (a1.toList != ([111, 102, 102] : List UInt8)) = false := bne_eq_false_iff_eq.mpr c25
                                  clear c25
                                  simp only [Option.some.injEq, Prod.mk.injEq] at H
                                  obtain ⟨rfl, rfl⟩ := H
                                  go_wp2
                                  go_ret2
                                  exact ⟨by first | rfl | (simp; done) | (simp [*]; done) | (simp [wrap64]; done), by repeat (first | exact Drawn0.refl _ | apply Drawn0.step)⟩
                                · rw [if_neg c25] at H
                                  have c25b0 : (a1.toList == ([111, 102, 102] : List UInt8)) = false := beq_eq_false_iff_ne.mpr c25
                                  have c25b1 : (a1.toList != ([111, 102, 102] : List UInt8)) = true := bne_iff_ne.mpr c25
                                  by_cases c26 : a1.toList = ([79, 102, 102] : List UInt8)
                                  · rw [if_pos c26] at H
                                    have c26b0 : (a1.toList == ([79, 102, 102] : List UInt8)) = true := beq_iff_eq.mpr c26
                                    have c26b1 : (a1.toList != ([79, 102, 102] : List UInt8)) = false := bne_eq_false_iff_eq.mpr c26
                                    clear c26
                                    simp only [Option.some.injEq, Prod.mk.injEq] at H
                                    obtain ⟨rfl, rfl⟩ := H
                                    go_wp2
                                    go_ret2
                                    exact ⟨by first | rfl | (simp; done) | (simp [*]; done) | (simp [wrap64]; done), by repeat (first | exact Drawn0.refl _ | apply Drawn0.step)⟩
                                  · rw [if_neg c26] at H
                                    have c26b0 : (a1.toList == ([79, 102, 102] : List UInt8)) = false := beq_eq_false_iff_ne.mpr c26
                                    have c26b1 : (a1.toList != ([79, 102, 102] : List UInt8)) = true := bne_iff_ne.mpr c26
                                    by_cases c27 : a1.toList = ([79, 70, 70] : List UInt8)
                                    · rw [if_pos c27] at H
                                      have c27b0 : (a1.toList == ([79, 70, 70] : List UInt8)) = true := beq_iff_eq.mpr c27
                                      have c27b1 : (a1.toList != ([79, 70, 70] : List UInt8)) = false := bne_eq_false_iff_eq.mpr c27
                                      clear c27
                                      simp only [Option.some.injEq, Prod.mk.injEq] at H
                                      obtain ⟨rfl, rfl⟩ := H
                                      go_wp2
                                      go_ret2
                                      exact ⟨by first | rfl | (simp; done) | (simp [*]; done) | (simp [wrap64]; done), by repeat (first | exact Drawn0.refl _ | apply Drawn0.step)⟩
                                    · rw [if_neg c27] at H
                                      have c27b0 : (a1.toList == ([79, 70, 70] : List UInt8)) = false := beq_eq_false_iff_ne.mpr c27
                                      have c27b1 : (a1.toList != ([79, 70, 70] : List UInt8)) = true := bne_iff_ne.mpr c27
                                      simp only [Option.some.injEq, Prod.mk.injEq] at H
                                      obtain ⟨rfl, rfl⟩ := H
                                      go_wp2
                                      go_ret2
                                      exact ⟨by first | rfl | (simp; done) | (simp [*]; done) | (simp [wrap64]; done), by repeat (first | exact Drawn0.refl _ | apply Drawn0.step)⟩
              · rw [if_neg c10] at H
                have c10b0 : (a0 == 11) = false := beq_eq_false_iff_ne.mpr c10
                have c10b1 : (a0 != 11) = true := bne_iff_ne.mpr c10
                simp only [Option.some.injEq, Prod.mk.injEq] at H
                obtain ⟨rfl, rfl⟩ := H
                go_wp2
                go_ret2
                exact ⟨by first | rfl | (simp; done) | (simp [*]; done) | (simp [wrap64]; done), by repeat (first | exact Drawn0.refl _ | apply Drawn0.step)⟩

/-! ### targumref6_Null: function 11 -/
def targumref6_Null.f (a0 : ByteArray) : Option (Bool) := if a0.toList = ([] : List UInt8) then (some true) else (if a0.toList = ([126] : List UInt8) then (some true) else (if a0.toList = ([110, 117, 108, 108] : List UInt8) then (some true) else (if a0.toList = ([78, 117, 108, 108] : List UInt8) then (some true) else (some (a0.toList == ([78, 85, 76, 76] : List UInt8))))))
set_option maxHeartbeats 8000000 in
set_option maxRecDepth 100000 in
theorem targumref6_Null.calls (a0 : ByteArray) (r : Bool) (w : World) (h : targumref6_Null.f a0 = some r) :
    Calls Try.prog 11 #[.string a0] w fun e w' => e = .returned (.bool r) ∧ Drawn0 w w' := by
  have H : (if a0.toList = ([] : List UInt8) then (some true) else (if a0.toList = ([126] : List UInt8) then (some true) else (if a0.toList = ([110, 117, 108, 108] : List UInt8) then (some true) else (if a0.toList = ([78, 117, 108, 108] : List UInt8) then (some true) else (some (a0.toList == ([78, 85, 76, 76] : List UInt8))))))) = some r := h
  clear h
  by_cases c2 : a0.toList = ([] : List UInt8)
  · rw [if_pos c2] at H
    have c2b0 : (a0.toList == ([] : List UInt8)) = true := beq_iff_eq.mpr c2
    have c2b1 : (a0.toList != ([] : List UInt8)) = false := bne_eq_false_iff_eq.mpr c2
    clear c2
    obtain rfl := Option.some.inj H
    go_enter Try.func11, Try.ntmps11
    go_wp2
    go_ret
    exact ⟨by first | rfl | (simp; done) | (simp [*]; done) | (simp [wrap64]; done), by repeat (first | exact Drawn0.refl _ | apply Drawn0.step)⟩
  · rw [if_neg c2] at H
    have c2b0 : (a0.toList == ([] : List UInt8)) = false := beq_eq_false_iff_ne.mpr c2
    have c2b1 : (a0.toList != ([] : List UInt8)) = true := bne_iff_ne.mpr c2
    by_cases c3 : a0.toList = ([126] : List UInt8)
    · rw [if_pos c3] at H
      have c3b0 : (a0.toList == ([126] : List UInt8)) = true := beq_iff_eq.mpr c3
      have c3b1 : (a0.toList != ([126] : List UInt8)) = false := bne_eq_false_iff_eq.mpr c3
      clear c3
      obtain rfl := Option.some.inj H
      go_enter Try.func11, Try.ntmps11
      go_wp2
      go_ret
      exact ⟨by first | rfl | (simp; done) | (simp [*]; done) | (simp [wrap64]; done), by repeat (first | exact Drawn0.refl _ | apply Drawn0.step)⟩
    · rw [if_neg c3] at H
      have c3b0 : (a0.toList == ([126] : List UInt8)) = false := beq_eq_false_iff_ne.mpr c3
      have c3b1 : (a0.toList != ([126] : List UInt8)) = true := bne_iff_ne.mpr c3
      by_cases c4 : a0.toList = ([110, 117, 108, 108] : List UInt8)
      · rw [if_pos c4] at H
        have c4b0 : (a0.toList == ([110, 117, 108, 108] : List UInt8)) = true := beq_iff_eq.mpr c4
        have c4b1 : (a0.toList != ([110, 117, 108, 108] : List UInt8)) = false := bne_eq_false_iff_eq.mpr c4
        clear c4
        obtain rfl := Option.some.inj H
        go_enter Try.func11, Try.ntmps11
        go_wp2
        go_ret
        exact ⟨by first | rfl | (simp; done) | (simp [*]; done) | (simp [wrap64]; done), by repeat (first | exact Drawn0.refl _ | apply Drawn0.step)⟩
      · rw [if_neg c4] at H
        have c4b0 : (a0.toList == ([110, 117, 108, 108] : List UInt8)) = false := beq_eq_false_iff_ne.mpr c4
        have c4b1 : (a0.toList != ([110, 117, 108, 108] : List UInt8)) = true := bne_iff_ne.mpr c4
        by_cases c5 : a0.toList = ([78, 117, 108, 108] : List UInt8)
        · rw [if_pos c5] at H
          have c5b0 : (a0.toList == ([78, 117, 108, 108] : List UInt8)) = true := beq_iff_eq.mpr c5
          have c5b1 : (a0.toList != ([78, 117, 108, 108] : List UInt8)) = false := bne_eq_false_iff_eq.mpr c5
          clear c5
          obtain rfl := Option.some.inj H
          go_enter Try.func11, Try.ntmps11
          go_wp2
          go_ret
          exact ⟨by first | rfl | (simp; done) | (simp [*]; done) | (simp [wrap64]; done), by repeat (first | exact Drawn0.refl _ | apply Drawn0.step)⟩
        · rw [if_neg c5] at H
          have c5b0 : (a0.toList == ([78, 117, 108, 108] : List UInt8)) = false := beq_eq_false_iff_ne.mpr c5
          have c5b1 : (a0.toList != ([78, 117, 108, 108] : List UInt8)) = true := bne_iff_ne.mpr c5
          obtain rfl := Option.some.inj H
          go_enter Try.func11, Try.ntmps11
          go_wp2
          go_ret
          exact ⟨by first | rfl | (simp; done) | (simp [*]; done) | (simp [wrap64]; done), by repeat (first | exact Drawn0.refl _ | apply Drawn0.step)⟩

/-! ### targumref6_Letter: function 16 -/
def targumref6_Letter.f (a0 : Int) : Option (Bool) := if a0 ≥ 97 then (if a0 ≤ 122 then (some true) else (if a0 ≥ 65 then (some (decide (a0 ≤ 90))) else (some false))) else (if a0 ≥ 65 then (some (decide (a0 ≤ 90))) else (some false))
set_option maxHeartbeats 8000000 in
set_option maxRecDepth 100000 in
theorem targumref6_Letter.calls (a0 : Int) (r : Bool) (w : World) (h : targumref6_Letter.f a0 = some r) :
    Calls Try.prog 16 #[.int .u8 a0] w fun e w' => e = .returned (.bool r) ∧ Drawn0 w w' := by
  have H : (if a0 ≥ 97 then (if a0 ≤ 122 then (some true) else (if a0 ≥ 65 then (some (decide (a0 ≤ 90))) else (some false))) else (if a0 ≥ 65 then (some (decide (a0 ≤ 90))) else (some false))) = some r := h
  clear h
  by_cases c2 : a0 ≥ 97
  · rw [if_pos c2] at H
    have c2b0 : decide (97 ≤ a0) = true := decide_eq_true c2
    clear c2
    by_cases c3 : a0 ≤ 122
    · rw [if_pos c3] at H
      have c3b0 : decide (a0 ≤ 122) = true := decide_eq_true c3
      clear c3
      obtain rfl := Option.some.inj H
      go_enter Try.func16, Try.ntmps16
      go_wp2
      go_ret
      exact ⟨by first | rfl | (simp; done) | (simp [*]; done) | (simp [wrap64]; done), by repeat (first | exact Drawn0.refl _ | apply Drawn0.step)⟩
    · rw [if_neg c3] at H
      have c3b0 : decide (a0 ≤ 122) = false := decide_eq_false c3
      clear c3
      by_cases c4 : a0 ≥ 65
      · rw [if_pos c4] at H
        have c4b0 : decide (65 ≤ a0) = true := decide_eq_true c4
        clear c4
        obtain rfl := Option.some.inj H
        go_enter Try.func16, Try.ntmps16
        go_wp2
        go_ret
        exact ⟨by first | rfl | (simp; done) | (simp [*]; done) | (simp [wrap64]; done), by repeat (first | exact Drawn0.refl _ | apply Drawn0.step)⟩
      · rw [if_neg c4] at H
        have c4b0 : decide (65 ≤ a0) = false := decide_eq_false c4
        clear c4
        obtain rfl := Option.some.inj H
        go_enter Try.func16, Try.ntmps16
        go_wp2
        go_ret
        exact ⟨by first | rfl | (simp; done) | (simp [*]; done) | (simp [wrap64]; done), by repeat (first | exact Drawn0.refl _ | apply Drawn0.step)⟩
  · rw [if_neg c2] at H
    have c2b0 : decide (97 ≤ a0) = false := decide_eq_false c2
    clear c2
    by_cases c5 : a0 ≥ 65
    · rw [if_pos c5] at H
      have c5b0 : decide (65 ≤ a0) = true := decide_eq_true c5
      clear c5
      obtain rfl := Option.some.inj H
      go_enter Try.func16, Try.ntmps16
      go_wp2
      go_ret
      exact ⟨by first | rfl | (simp; done) | (simp [*]; done) | (simp [wrap64]; done), by repeat (first | exact Drawn0.refl _ | apply Drawn0.step)⟩
    · rw [if_neg c5] at H
      have c5b0 : decide (65 ≤ a0) = false := decide_eq_false c5
      clear c5
      obtain rfl := Option.some.inj H
      go_enter Try.func16, Try.ntmps16
      go_wp2
      go_ret
      exact ⟨by first | rfl | (simp; done) | (simp [*]; done) | (simp [wrap64]; done), by repeat (first | exact Drawn0.refl _ | apply Drawn0.step)⟩

/-! ### targumref4_IsDigit: function 18 -/
def targumref4_IsDigit.f (a0 : Int) : Option (Bool) := if a0 ≥ 48 then (some (decide (a0 ≤ 57))) else (some false)
set_option maxHeartbeats 8000000 in
set_option maxRecDepth 100000 in
theorem targumref4_IsDigit.calls (a0 : Int) (r : Bool) (w : World) (h : targumref4_IsDigit.f a0 = some r) :
    Calls Try.prog 18 #[.int .u8 a0] w fun e w' => e = .returned (.bool r) ∧ Drawn0 w w' := by
  have H : (if a0 ≥ 48 then (some (decide (a0 ≤ 57))) else (some false)) = some r := h
  clear h
  by_cases c2 : a0 ≥ 48
  · rw [if_pos c2] at H
    have c2b0 : decide (48 ≤ a0) = true := decide_eq_true c2
    clear c2
    obtain rfl := Option.some.inj H
    go_enter Try.func18, Try.ntmps18
    go_wp2
    go_ret
    exact ⟨by first | rfl | (simp; done) | (simp [*]; done) | (simp [wrap64]; done), by repeat (first | exact Drawn0.refl _ | apply Drawn0.step)⟩
  · rw [if_neg c2] at H
    have c2b0 : decide (48 ≤ a0) = false := decide_eq_false c2
    clear c2
    obtain rfl := Option.some.inj H
    go_enter Try.func18, Try.ntmps18
    go_wp2
    go_ret
    exact ⟨by first | rfl | (simp; done) | (simp [*]; done) | (simp [wrap64]; done), by repeat (first | exact Drawn0.refl _ | apply Drawn0.step)⟩

end Go.Proofs.Ytkphlddgfmgogaa.PZ
