/- Written by this session's own program (xprint, made over the kit's print): Lean functions with the same answers as the Go functions, and the proofs of that. Not trusted: Lean checks it. -/
import Derived.Test.YtkphlddgfmgogaaPZx0
import Derived.Test.YtkphlddgfmgogaaPZx1
namespace Go.Proofs.Ytkphlddgfmgogaa.PZ
open Go.RowKit Go.Proofs.YtkphlddgfmgogaaW.PrintWords Go.Proofs.YtkphlddgfmgogaaW.PrintLast Go.Proofs.YtkphlddgfmgogaaW.PrintMore
attribute [local go_sem] max2_int min2_int max_two min_two max_three min_three max_four min_four   -- for this text's walks alone
set_option linter.unusedVariables false
set_option linter.unusedSimpArgs false

/-! ### word_Plain: function 13 -/
def word_Plain.l0 : Nat → ByteArray → Int → Int → Option (Bool)
  | 0, _, _, _ => none
  | k + 1, x0, x8, x9 => if x9 < x8 then (if 0 ≤ x9 then (if x9 < (x0.size : Int) then ((word_letter.f (bt x0 x9)).bind fun t101 => (if t101 = true then (word_Plain.l0 k x0 x8 (wrap64 (x9 + 1))) else (if x9 = 0 then (some false) else (if (bt x0 x9) = 95 then (word_Plain.l0 k x0 x8 (wrap64 (x9 + 1))) else (if (bt x0 x9) = 45 then (word_Plain.l0 k x0 x8 (wrap64 (x9 + 1))) else (if (bt x0 x9) < 48 then (some false) else (if (bt x0 x9) > 57 then (some false) else (word_Plain.l0 k x0 x8 (wrap64 (x9 + 1)))))))))) else (none)) else (none)) else ((word_Bool.f k 11 x0).bind fun bt102 => (if bt102.2 = true then (some false) else ((word_Null.f x0).bind fun t104 => (if t104 = true then (some false) else (some (decide ((x0.size : Int) ≤ 40)))))))
def word_Plain.f (k : Nat) (a0 : ByteArray) : Option (Bool) := word_Plain.l0 k a0 (a0.size : Int) 0
theorem word_Plain.mono_l : ∀ k, (∀ y0 y1 y2, LeO (word_Plain.l0 k y0 y1 y2) (word_Plain.l0 (k + 1) y0 y1 y2))
  | 0 => fun _ _ _ r h => by simp [word_Plain.l0] at h
  | k + 1 => by
    have ih0 := word_Plain.mono_l k
    · intro y0 y1 y2
      unfold word_Plain.l0
      repeat' first
      | (with_reducible exact ih0 _ _ _)
      | (with_reducible exact word_Bool.mono _ _ _)
      | (with_reducible exact LeO.refl _)
      | (with_reducible exact LeO.none _)
      | (with_reducible refine LeO.ite ?_ ?_)
      | (with_reducible refine LeO.bind ?_ (fun _ => ?_))
      | exact ih0 _ _ _
      | exact word_Bool.mono _ _ _
      | exact LeO.none _
      | refine LeO.ite ?_ ?_
      | refine LeO.bind ?_ (fun _ => ?_)
theorem word_Plain.mono : ∀ a0 k, LeO (word_Plain.f k a0) (word_Plain.f (k + 1) a0) := by
  intro a0 k
  have ih0 := word_Plain.mono_l k
  unfold word_Plain.f
  repeat' first
      | (with_reducible exact ih0 _ _ _)
      | (with_reducible exact word_Bool.mono _ _ _)
      | (with_reducible exact LeO.refl _)
      | (with_reducible exact LeO.none _)
      | (with_reducible refine LeO.ite ?_ ?_)
      | (with_reducible refine LeO.bind ?_ (fun _ => ?_))
      | exact ih0 _ _ _
      | exact word_Bool.mono _ _ _
      | exact LeO.none _
      | refine LeO.ite ?_ ?_
      | refine LeO.bind ?_ (fun _ => ?_)
set_option maxHeartbeats 8000000 in
set_option maxRecDepth 100000 in
theorem word_Plain.calls (k : Nat) (a0 : ByteArray) (r : Bool) (w : World) (h : word_Plain.f k a0 = some r) :
    Calls Try.prog 13 #[.string a0] w fun e w' => e = .returned (.bool r) ∧ Drawn0 w w' := by
  have H : (word_Plain.l0 k a0 (a0.size : Int) 0) = some r := h
  clear h
  have H' := Aside0.mk H
  clear H
  go_enter Try.func13, Try.ntmps13
  go_wp2
  go_loopg [9] k (fun kq v9 w' => ∃ (x9_1 : Int), v9 = .int .i64 x9_1 ∧ Aside0 (word_Plain.l0 kq a0 (a0.size : Int) x9_1 = some r) ∧ Aside0 (kq ≤ k) ∧ Drawn0 w w')
  case atStart => exact ⟨(0), (by first | rfl | (simp; done) | (simp [*]; done) | (simp [wrap64]; done)), H', ⟨Nat.le_refl _⟩, by repeat (first | exact Drawn0.refl _ | apply Drawn0.step)⟩
  case round =>
    clear H'
    try clear c1
    obtain ⟨x9_1, rfl, HA, HK1, ⟨m1, rfl⟩⟩ := hrel
    cases gk with
    | zero => exact absurd HA.out (by simp [word_Plain.l0])
    | succ k1 =>
      have H := HA.out
      clear HA
      simp only [word_Plain.l0] at H
      by_cases c2 : x9_1 < (a0.size : Int)
      · rw [if_pos c2] at H
        have c2b0 : decide (x9_1 < (a0.size : Int)) = true := decide_eq_true c2
        clear c2
        by_cases c3 : 0 ≤ x9_1
        · rw [if_pos c3] at H
          have c3b0 : decide (0 ≤ x9_1) = true := decide_eq_true c3
          clear c3
          by_cases c4 : x9_1 < (a0.size : Int)
          · rw [if_pos c4] at H
            have c4b0 : decide (x9_1 < (a0.size : Int)) = true := decide_eq_true c4
            clear c4
            replace H := Option.bind_eq_some_iff.mp H
            obtain ⟨t101, A60, H⟩ := H
            replace H : (if t101 = true then (word_Plain.l0 k1 a0 (a0.size : Int) (wrap64 (x9_1 + 1))) else (if x9_1 = 0 then (some false) else (if (bt a0 x9_1) = 95 then (word_Plain.l0 k1 a0 (a0.size : Int) (wrap64 (x9_1 + 1))) else (if (bt a0 x9_1) = 45 then (word_Plain.l0 k1 a0 (a0.size : Int) (wrap64 (x9_1 + 1))) else (if (bt a0 x9_1) < 48 then (some false) else (if (bt a0 x9_1) > 57 then (some false) else (word_Plain.l0 k1 a0 (a0.size : Int) (wrap64 (x9_1 + 1))))))))) = some r := H
            have A6 := Aside0.mk A60
            clear A60
            by_cases c7 : t101 = true
            · subst c7
              have H1 : (word_Plain.l0 k1 a0 (a0.size : Int) (wrap64 (x9_1 + 1))) = some r := by rw [if_pos rfl] at H; exact H
              clear H
              have H := H1
              clear H1
              have H' := Aside0.mk H
              clear H
              have p5 : 0 ≤ (x9_1 : Int) := of_decide_eq_true (by first | (with_reducible assumption) | assumption)
              have q5 : x9_1 < (a0.size : Int) := of_decide_eq_true (by first | (with_reducible assumption) | assumption)
              have hx5 := bt_at a0 x9_1
              replace p5 := eq_true p5
              replace q5 := eq_true q5
              go_wp2_with (first | ((with_reducible refine gate_callee (f := 17) rfl ?_); refine goesL_ (some 16) rfl rfl Try.func17 (by kernel_rfl) rfl #[.int .u8 (bt a0 x9_1)] rfl (by (try simp only [List.map_toArray, List.map_cons, List.map_nil]); first | done | rfl | (simp only [List.length_drop, List.length_take]; rfl)) ?_; (with_reducible refine (word_letter.calls (bt a0 x9_1) true _ A6.out).mono ?_); rintro e w' ⟨rfl, ⟨nd, rfl⟩⟩; refine ⟨_, rfl, ?_⟩))
              go_roundg k1
              case measure => have := HK1.out; omega
              case rel => exact ⟨(wrap64 (x9_1 + 1)), (by first | rfl | (simp; done) | (simp [*]; done) | (simp [wrap64]; done)), H', ⟨by have := HK1.out; omega⟩, by repeat (first | exact Drawn0.refl _ | apply Drawn0.step)⟩
            · replace c7 := Bool.eq_false_iff.mpr c7
              subst c7
              have H1 : (if x9_1 = 0 then (some false) else (if (bt a0 x9_1) = 95 then (word_Plain.l0 k1 a0 (a0.size : Int) (wrap64 (x9_1 + 1))) else (if (bt a0 x9_1) = 45 then (word_Plain.l0 k1 a0 (a0.size : Int) (wrap64 (x9_1 + 1))) else (if (bt a0 x9_1) < 48 then (some false) else (if (bt a0 x9_1) > 57 then (some false) else (word_Plain.l0 k1 a0 (a0.size : Int) (wrap64 (x9_1 + 1)))))))) = some r := by rw [if_neg (show ¬ (false = true) by decide)] at H; exact H
              clear H
              have H := H1
              clear H1
              by_cases c8 : x9_1 = 0
              · rw [if_pos c8] at H
                have c8b0 : (x9_1 == 0) = true := beq_iff_eq.mpr c8
                have c8b1 : (x9_1 != 0) = false := bne_eq_false_iff_eq.mpr c8
                clear c8
                obtain rfl := Option.some.inj H
                have p5 : 0 ≤ (x9_1 : Int) := of_decide_eq_true (by first | (with_reducible assumption) | assumption)
                have q5 : x9_1 < (a0.size : Int) := of_decide_eq_true (by first | (with_reducible assumption) | assumption)
                have hx5 := bt_at a0 x9_1
                replace p5 := eq_true p5
                replace q5 := eq_true q5
                go_wp2_with (first | ((with_reducible refine gate_callee (f := 17) rfl ?_); refine goesL_ (some 16) rfl rfl Try.func17 (by kernel_rfl) rfl #[.int .u8 (bt a0 x9_1)] rfl (by (try simp only [List.map_toArray, List.map_cons, List.map_nil]); first | done | rfl | (simp only [List.length_drop, List.length_take]; rfl)) ?_; (with_reducible refine (word_letter.calls (bt a0 x9_1) false _ A6.out).mono ?_); rintro e w' ⟨rfl, ⟨nd, rfl⟩⟩; refine ⟨_, rfl, ?_⟩))
                go_ret
                exact ⟨by first | rfl | (simp; done) | (simp [*]; done) | (simp [wrap64]; done), by repeat (first | exact Drawn0.refl _ | apply Drawn0.step)⟩
              · rw [if_neg c8] at H
                have c8b0 : (x9_1 == 0) = false := beq_eq_false_iff_ne.mpr c8
                have c8b1 : (x9_1 != 0) = true := bne_iff_ne.mpr c8
                by_cases c9 : (bt a0 x9_1) = 95
                · rw [if_pos c9] at H
                  have c9b0 : ((bt a0 x9_1) == 95) = true := beq_iff_eq.mpr c9
                  have c9b1 : ((bt a0 x9_1) != 95) = false := bne_eq_false_iff_eq.mpr c9
                  clear c9
                  have H' := Aside0.mk H
                  clear H
                  have p5 : 0 ≤ (x9_1 : Int) := of_decide_eq_true (by first | (with_reducible assumption) | assumption)
                  have q5 : x9_1 < (a0.size : Int) := of_decide_eq_true (by first | (with_reducible assumption) | assumption)
                  have hx5 := bt_at a0 x9_1
                  replace p5 := eq_true p5
                  replace q5 := eq_true q5
                  go_wp2_with (first | ((with_reducible refine gate_callee (f := 17) rfl ?_); refine goesL_ (some 16) rfl rfl Try.func17 (by kernel_rfl) rfl #[.int .u8 (bt a0 x9_1)] rfl (by (try simp only [List.map_toArray, List.map_cons, List.map_nil]); first | done | rfl | (simp only [List.length_drop, List.length_take]; rfl)) ?_; (with_reducible refine (word_letter.calls (bt a0 x9_1) false _ A6.out).mono ?_); rintro e w' ⟨rfl, ⟨nd, rfl⟩⟩; refine ⟨_, rfl, ?_⟩))
                  go_roundg k1
                  case measure => have := HK1.out; omega
                  case rel => exact ⟨(wrap64 (x9_1 + 1)), (by first | rfl | (simp; done) | (simp [*]; done) | (simp [wrap64]; done)), H', ⟨by have := HK1.out; omega⟩, by repeat (first | exact Drawn0.refl _ | apply Drawn0.step)⟩
                · rw [if_neg c9] at H
                  have c9b0 : ((bt a0 x9_1) == 95) = false := beq_eq_false_iff_ne.mpr c9
                  have c9b1 : ((bt a0 x9_1) != 95) = true := bne_iff_ne.mpr c9
                  by_cases c10 : (bt a0 x9_1) = 45
                  · rw [if_pos c10] at H
                    have c10b0 : ((bt a0 x9_1) == 45) = true := beq_iff_eq.mpr c10
                    have c10b1 : ((bt a0 x9_1) != 45) = false := bne_eq_false_iff_eq.mpr c10
                    clear c10
                    have H' := Aside0.mk H
                    clear H
                    have p5 : 0 ≤ (x9_1 : Int) := of_decide_eq_true (by first | (with_reducible assumption) | assumption)
                    have q5 : x9_1 < (a0.size : Int) := of_decide_eq_true (by first | (with_reducible assumption) | assumption)
                    have hx5 := bt_at a0 x9_1
                    replace p5 := eq_true p5
                    replace q5 := eq_true q5
                    go_wp2_with (first | ((with_reducible refine gate_callee (f := 17) rfl ?_); refine goesL_ (some 16) rfl rfl Try.func17 (by kernel_rfl) rfl #[.int .u8 (bt a0 x9_1)] rfl (by (try simp only [List.map_toArray, List.map_cons, List.map_nil]); first | done | rfl | (simp only [List.length_drop, List.length_take]; rfl)) ?_; (with_reducible refine (word_letter.calls (bt a0 x9_1) false _ A6.out).mono ?_); rintro e w' ⟨rfl, ⟨nd, rfl⟩⟩; refine ⟨_, rfl, ?_⟩))
                    go_roundg k1
                    case measure => have := HK1.out; omega
                    case rel => exact ⟨(wrap64 (x9_1 + 1)), (by first | rfl | (simp; done) | (simp [*]; done) | (simp [wrap64]; done)), H', ⟨by have := HK1.out; omega⟩, by repeat (first | exact Drawn0.refl _ | apply Drawn0.step)⟩
                  · rw [if_neg c10] at H
                    have c10b0 : ((bt a0 x9_1) == 45) = false := beq_eq_false_iff_ne.mpr c10
                    have c10b1 : ((bt a0 x9_1) != 45) = true := bne_iff_ne.mpr c10
                    by_cases c11 : (bt a0 x9_1) < 48
                    · rw [if_pos c11] at H
                      have c11b0 : decide ((bt a0 x9_1) < 48) = true := decide_eq_true c11
                      clear c11
                      obtain rfl := Option.some.inj H
                      have p5 : 0 ≤ (x9_1 : Int) := of_decide_eq_true (by first | (with_reducible assumption) | assumption)
                      have q5 : x9_1 < (a0.size : Int) := of_decide_eq_true (by first | (with_reducible assumption) | assumption)
                      have hx5 := bt_at a0 x9_1
                      replace p5 := eq_true p5
                      replace q5 := eq_true q5
                      go_wp2_with (first | ((with_reducible refine gate_callee (f := 17) rfl ?_); refine goesL_ (some 16) rfl rfl Try.func17 (by kernel_rfl) rfl #[.int .u8 (bt a0 x9_1)] rfl (by (try simp only [List.map_toArray, List.map_cons, List.map_nil]); first | done | rfl | (simp only [List.length_drop, List.length_take]; rfl)) ?_; (with_reducible refine (word_letter.calls (bt a0 x9_1) false _ A6.out).mono ?_); rintro e w' ⟨rfl, ⟨nd, rfl⟩⟩; refine ⟨_, rfl, ?_⟩))
                      go_ret
                      exact ⟨by first | rfl | (simp; done) | (simp [*]; done) | (simp [wrap64]; done), by repeat (first | exact Drawn0.refl _ | apply Drawn0.step)⟩
                    · rw [if_neg c11] at H
                      have c11b0 : decide ((bt a0 x9_1) < 48) = false := decide_eq_false c11
                      clear c11
                      by_cases c12 : (bt a0 x9_1) > 57
                      · rw [if_pos c12] at H
                        have c12b0 : decide (57 < (bt a0 x9_1)) = true := decide_eq_true c12
                        clear c12
                        obtain rfl := Option.some.inj H
                        have p5 : 0 ≤ (x9_1 : Int) := of_decide_eq_true (by first | (with_reducible assumption) | assumption)
                        have q5 : x9_1 < (a0.size : Int) := of_decide_eq_true (by first | (with_reducible assumption) | assumption)
                        have hx5 := bt_at a0 x9_1
                        replace p5 := eq_true p5
                        replace q5 := eq_true q5
                        go_wp2_with (first | ((with_reducible refine gate_callee (f := 17) rfl ?_); refine goesL_ (some 16) rfl rfl Try.func17 (by kernel_rfl) rfl #[.int .u8 (bt a0 x9_1)] rfl (by (try simp only [List.map_toArray, List.map_cons, List.map_nil]); first | done | rfl | (simp only [List.length_drop, List.length_take]; rfl)) ?_; (with_reducible refine (word_letter.calls (bt a0 x9_1) false _ A6.out).mono ?_); rintro e w' ⟨rfl, ⟨nd, rfl⟩⟩; refine ⟨_, rfl, ?_⟩))
                        go_ret
                        exact ⟨by first | rfl | (simp; done) | (simp [*]; done) | (simp [wrap64]; done), by repeat (first | exact Drawn0.refl _ | apply Drawn0.step)⟩
                      · rw [if_neg c12] at H
                        have c12b0 : decide (57 < (bt a0 x9_1)) = false := decide_eq_false c12
                        clear c12
                        have H' := Aside0.mk H
                        clear H
                        have p5 : 0 ≤ (x9_1 : Int) := of_decide_eq_true (by first | (with_reducible assumption) | assumption)
                        have q5 : x9_1 < (a0.size : Int) := of_decide_eq_true (by first | (with_reducible assumption) | assumption)
                        have hx5 := bt_at a0 x9_1
                        replace p5 := eq_true p5
                        replace q5 := eq_true q5
                        go_wp2_with (first | ((with_reducible refine gate_callee (f := 17) rfl ?_); refine goesL_ (some 16) rfl rfl Try.func17 (by kernel_rfl) rfl #[.int .u8 (bt a0 x9_1)] rfl (by (try simp only [List.map_toArray, List.map_cons, List.map_nil]); first | done | rfl | (simp only [List.length_drop, List.length_take]; rfl)) ?_; (with_reducible refine (word_letter.calls (bt a0 x9_1) false _ A6.out).mono ?_); rintro e w' ⟨rfl, ⟨nd, rfl⟩⟩; refine ⟨_, rfl, ?_⟩))
                        go_roundg k1
                        case measure => have := HK1.out; omega
                        case rel => exact ⟨(wrap64 (x9_1 + 1)), (by first | rfl | (simp; done) | (simp [*]; done) | (simp [wrap64]; done)), H', ⟨by have := HK1.out; omega⟩, by repeat (first | exact Drawn0.refl _ | apply Drawn0.step)⟩
          · rw [if_neg c4] at H
            exact absurd H (by simp)
        · rw [if_neg c3] at H
          exact absurd H (by simp)
      · rw [if_neg c2] at H
        have c2b0 : decide (x9_1 < (a0.size : Int)) = false := decide_eq_false c2
        clear c2
        replace H := Option.bind_eq_some_iff.mp H
        obtain ⟨⟨t102, t103⟩, A130, H⟩ := H
        replace H : (if t103 = true then (some false) else ((word_Null.f a0).bind fun t104 => (if t104 = true then (some false) else (some (decide ((a0.size : Int) ≤ 40)))))) = some r := H
        have A13 := Aside0.mk A130
        clear A130
        by_cases c14 : t103 = true
        · subst c14
          have H1 : (some false) = some r := by rw [if_pos rfl] at H; exact H
          clear H
          have H := H1
          clear H1
          obtain rfl := Option.some.inj H
          go_wp2_with (first | ((with_reducible refine gate_callee (f := 8) rfl ?_); refine goesL_ (some 41) rfl rfl Try.func8 (by kernel_rfl) rfl #[.int .i64 11, .string a0] rfl (by (try simp only [List.map_toArray, List.map_cons, List.map_nil]); first | done | rfl | (simp only [List.length_drop, List.length_take]; rfl)) ?_; (with_reducible refine (word_Bool.calls k1 11 a0 t102 true _ A13.out).mono ?_); rintro e w' ⟨rfl, ⟨nd, rfl⟩⟩; refine ⟨_, rfl, ?_⟩))
          go_ret
          exact ⟨by first | rfl | (simp; done) | (simp [*]; done) | (simp [wrap64]; done), by repeat (first | exact Drawn0.refl _ | apply Drawn0.step)⟩
        · replace c14 := Bool.eq_false_iff.mpr c14
          subst c14
          have H1 : ((word_Null.f a0).bind fun t104 => (if t104 = true then (some false) else (some (decide ((a0.size : Int) ≤ 40))))) = some r := by rw [if_neg (show ¬ (false = true) by decide)] at H; exact H
          clear H
          have H := H1
          clear H1
          replace H := Option.bind_eq_some_iff.mp H
          obtain ⟨t104, A150, H⟩ := H
          replace H : (if t104 = true then (some false) else (some (decide ((a0.size : Int) ≤ 40)))) = some r := H
          have A15 := Aside0.mk A150
          clear A150
          by_cases c16 : t104 = true
          · subst c16
            have H1 : (some false) = some r := by rw [if_pos rfl] at H; exact H
            clear H
            have H := H1
            clear H1
            obtain rfl := Option.some.inj H
            go_wp2_with (first | ((with_reducible refine gate_callee (f := 8) rfl ?_); refine goesL_ (some 41) rfl rfl Try.func8 (by kernel_rfl) rfl #[.int .i64 11, .string a0] rfl (by (try simp only [List.map_toArray, List.map_cons, List.map_nil]); first | done | rfl | (simp only [List.length_drop, List.length_take]; rfl)) ?_; (with_reducible refine (word_Bool.calls k1 11 a0 t102 false _ A13.out).mono ?_); rintro e w' ⟨rfl, ⟨nd, rfl⟩⟩; refine ⟨_, rfl, ?_⟩) | (go_at_call 10; (with_reducible refine (word_Null.calls a0 true _ A15.out).mono ?_); rintro e w' ⟨rfl, ⟨nd, rfl⟩⟩))
            go_ret
            exact ⟨by first | rfl | (simp; done) | (simp [*]; done) | (simp [wrap64]; done), by repeat (first | exact Drawn0.refl _ | apply Drawn0.step)⟩
          · replace c16 := Bool.eq_false_iff.mpr c16
            subst c16
            have H1 : (some (decide ((a0.size : Int) ≤ 40))) = some r := by rw [if_neg (show ¬ (false = true) by decide)] at H; exact H
            clear H
            have H := H1
            clear H1
            obtain rfl := Option.some.inj H
            go_wp2_with (first | ((with_reducible refine gate_callee (f := 8) rfl ?_); refine goesL_ (some 41) rfl rfl Try.func8 (by kernel_rfl) rfl #[.int .i64 11, .string a0] rfl (by (try simp only [List.map_toArray, List.map_cons, List.map_nil]); first | done | rfl | (simp only [List.length_drop, List.length_take]; rfl)) ?_; (with_reducible refine (word_Bool.calls k1 11 a0 t102 false _ A13.out).mono ?_); rintro e w' ⟨rfl, ⟨nd, rfl⟩⟩; refine ⟨_, rfl, ?_⟩) | (go_at_call 10; (with_reducible refine (word_Null.calls a0 false _ A15.out).mono ?_); rintro e w' ⟨rfl, ⟨nd, rfl⟩⟩))
            go_ret
            exact ⟨by first | rfl | (simp; done) | (simp [*]; done) | (simp [wrap64]; done), by repeat (first | exact Drawn0.refl _ | apply Drawn0.step)⟩

/-! ### targumlaw9_known: function 7 -/
def targumlaw9_known.f (k : Nat)  : Option (Bool) := (word_Bool.f k 11 (⟨#[79, 102, 102]⟩ : ByteArray)).bind fun bt105 => ((word_Bool.f k 12 (⟨#[121, 101, 115]⟩ : ByteArray)).bind fun bt107 => (if bt105.1 = true then (some false) else (if bt105.2 = true then (if bt107.2 = true then (some false) else ((word_Null.f (⟨#[126]⟩ : ByteArray)).bind fun t109 => (if t109 = true then ((word_Merge.f (⟨#[60, 60]⟩ : ByteArray)).bind fun t110 => (if t110 = true then ((word_Merge.f (⟨#[60]⟩ : ByteArray)).bind fun t111 => (if t111 = true then (some false) else ((word_Plain.f k (⟨#[97, 45, 49]⟩ : ByteArray)).bind fun t112 => (if t112 = true then ((word_Plain.f k (⟨#[121, 101, 115]⟩ : ByteArray)).bind fun t113 => (if t113 = true then (some false) else ((word_Plain.f k (⟨#[49, 97]⟩ : ByteArray)).bind fun t114 => (some (!t114))))) else (some false))))) else (some false))) else (some false)))) else (some false))))
theorem targumlaw9_known.mono : ∀ k, LeO (targumlaw9_known.f k ) (targumlaw9_known.f (k + 1) ) := by
  intro  k
  unfold targumlaw9_known.f
  repeat' first
      | (with_reducible exact word_Bool.mono _ _ _)
      | (with_reducible exact word_Plain.mono _ _)
      | (with_reducible exact LeO.refl _)
      | (with_reducible exact LeO.none _)
      | (with_reducible refine LeO.ite ?_ ?_)
      | (with_reducible refine LeO.bind ?_ (fun _ => ?_))
      | exact word_Bool.mono _ _ _
      | exact word_Plain.mono _ _
      | exact LeO.none _
      | refine LeO.ite ?_ ?_
      | refine LeO.bind ?_ (fun _ => ?_)
set_option maxHeartbeats 8000000 in
set_option maxRecDepth 100000 in
theorem targumlaw9_known.calls (k : Nat)  (r : Bool) (w : World) (h : targumlaw9_known.f k  = some r) :
    Calls Try.prog 7 #[] w fun e w' => e = .returned (.bool r) ∧ Drawn0 w w' := by
  have H : ((word_Bool.f k 11 (⟨#[79, 102, 102]⟩ : ByteArray)).bind fun bt105 => ((word_Bool.f k 12 (⟨#[121, 101, 115]⟩ : ByteArray)).bind fun bt107 => (if bt105.1 = true then (some false) else (if bt105.2 = true then (if bt107.2 = true then (some false) else ((word_Null.f (⟨#[126]⟩ : ByteArray)).bind fun t109 => (if t109 = true then ((word_Merge.f (⟨#[60, 60]⟩ : ByteArray)).bind fun t110 => (if t110 = true then ((word_Merge.f (⟨#[60]⟩ : ByteArray)).bind fun t111 => (if t111 = true then (some false) else ((word_Plain.f k (⟨#[97, 45, 49]⟩ : ByteArray)).bind fun t112 => (if t112 = true then ((word_Plain.f k (⟨#[121, 101, 115]⟩ : ByteArray)).bind fun t113 => (if t113 = true then (some false) else ((word_Plain.f k (⟨#[49, 97]⟩ : ByteArray)).bind fun t114 => (some (!t114))))) else (some false))))) else (some false))) else (some false)))) else (some false))))) = some r := h
  clear h
  replace H := Option.bind_eq_some_iff.mp H
  obtain ⟨⟨t105, t106⟩, A10, H⟩ := H
  replace H : ((word_Bool.f k 12 (⟨#[121, 101, 115]⟩ : ByteArray)).bind fun bt107 => (if t105 = true then (some false) else (if t106 = true then (if bt107.2 = true then (some false) else ((word_Null.f (⟨#[126]⟩ : ByteArray)).bind fun t109 => (if t109 = true then ((word_Merge.f (⟨#[60, 60]⟩ : ByteArray)).bind fun t110 => (if t110 = true then ((word_Merge.f (⟨#[60]⟩ : ByteArray)).bind fun t111 => (if t111 = true then (some false) else ((word_Plain.f k (⟨#[97, 45, 49]⟩ : ByteArray)).bind fun t112 => (if t112 = true then ((word_Plain.f k (⟨#[121, 101, 115]⟩ : ByteArray)).bind fun t113 => (if t113 = true then (some false) else ((word_Plain.f k (⟨#[49, 97]⟩ : ByteArray)).bind fun t114 => (some (!t114))))) else (some false))))) else (some false))) else (some false)))) else (some false)))) = some r := H
  have A1 := Aside0.mk A10
  clear A10
  replace H := Option.bind_eq_some_iff.mp H
  obtain ⟨⟨t107, t108⟩, A20, H⟩ := H
  replace H : (if t105 = true then (some false) else (if t106 = true then (if t108 = true then (some false) else ((word_Null.f (⟨#[126]⟩ : ByteArray)).bind fun t109 => (if t109 = true then ((word_Merge.f (⟨#[60, 60]⟩ : ByteArray)).bind fun t110 => (if t110 = true then ((word_Merge.f (⟨#[60]⟩ : ByteArray)).bind fun t111 => (if t111 = true then (some false) else ((word_Plain.f k (⟨#[97, 45, 49]⟩ : ByteArray)).bind fun t112 => (if t112 = true then ((word_Plain.f k (⟨#[121, 101, 115]⟩ : ByteArray)).bind fun t113 => (if t113 = true then (some false) else ((word_Plain.f k (⟨#[49, 97]⟩ : ByteArray)).bind fun t114 => (some (!t114))))) else (some false))))) else (some false))) else (some false)))) else (some false))) = some r := H
  have A2 := Aside0.mk A20
  clear A20
  by_cases c3 : t105 = true
  · subst c3
    have H1 : (some false) = some r := by rw [if_pos rfl] at H; exact H
    clear H
    have H := H1
    clear H1
    obtain rfl := Option.some.inj H
    go_enter Try.func7, Try.ntmps7
    go_wp2_with (first | ((with_reducible refine gate_callee (f := 8) rfl ?_); refine goesL_ (some 6) rfl rfl Try.func8 (by kernel_rfl) rfl #[.int .i64 11, .string (⟨#[79, 102, 102]⟩ : ByteArray)] rfl (by (try simp only [List.map_toArray, List.map_cons, List.map_nil]); first | done | rfl | (simp only [List.length_drop, List.length_take]; rfl)) ?_; (with_reducible refine (word_Bool.calls k 11 (⟨#[79, 102, 102]⟩ : ByteArray) true t106 _ A1.out).mono ?_); rintro e w' ⟨rfl, ⟨nd, rfl⟩⟩; refine ⟨_, rfl, ?_⟩) | ((with_reducible refine gate_callee (f := 8) rfl ?_); refine goesL_ (some 10) rfl rfl Try.func8 (by kernel_rfl) rfl #[.int .i64 12, .string (⟨#[121, 101, 115]⟩ : ByteArray)] rfl (by (try simp only [List.map_toArray, List.map_cons, List.map_nil]); first | done | rfl | (simp only [List.length_drop, List.length_take]; rfl)) ?_; (with_reducible refine (word_Bool.calls k 12 (⟨#[121, 101, 115]⟩ : ByteArray) t107 t108 _ A2.out).mono ?_); rintro e w' ⟨rfl, ⟨nd, rfl⟩⟩; refine ⟨_, rfl, ?_⟩))
    go_ret
    exact ⟨by first | rfl | (simp; done) | (simp [*]; done) | (simp [wrap64]; done), by repeat (first | exact Drawn0.refl _ | apply Drawn0.step)⟩
  · replace c3 := Bool.eq_false_iff.mpr c3
    subst c3
    have H1 : (if t106 = true then (if t108 = true then (some false) else ((word_Null.f (⟨#[126]⟩ : ByteArray)).bind fun t109 => (if t109 = true then ((word_Merge.f (⟨#[60, 60]⟩ : ByteArray)).bind fun t110 => (if t110 = true then ((word_Merge.f (⟨#[60]⟩ : ByteArray)).bind fun t111 => (if t111 = true then (some false) else ((word_Plain.f k (⟨#[97, 45, 49]⟩ : ByteArray)).bind fun t112 => (if t112 = true then ((word_Plain.f k (⟨#[121, 101, 115]⟩ : ByteArray)).bind fun t113 => (if t113 = true then (some false) else ((word_Plain.f k (⟨#[49, 97]⟩ : ByteArray)).bind fun t114 => (some (!t114))))) else (some false))))) else (some false))) else (some false)))) else (some false)) = some r := by rw [if_neg (show ¬ (false = true) by decide)] at H; exact H
    clear H
    have H := H1
    clear H1
    by_cases c4 : t106 = true
    · subst c4
      have H1 : (if t108 = true then (some false) else ((word_Null.f (⟨#[126]⟩ : ByteArray)).bind fun t109 => (if t109 = true then ((word_Merge.f (⟨#[60, 60]⟩ : ByteArray)).bind fun t110 => (if t110 = true then ((word_Merge.f (⟨#[60]⟩ : ByteArray)).bind fun t111 => (if t111 = true then (some false) else ((word_Plain.f k (⟨#[97, 45, 49]⟩ : ByteArray)).bind fun t112 => (if t112 = true then ((word_Plain.f k (⟨#[121, 101, 115]⟩ : ByteArray)).bind fun t113 => (if t113 = true then (some false) else ((word_Plain.f k (⟨#[49, 97]⟩ : ByteArray)).bind fun t114 => (some (!t114))))) else (some false))))) else (some false))) else (some false)))) = some r := by rw [if_pos rfl] at H; exact H
      clear H
      have H := H1
      clear H1
      by_cases c5 : t108 = true
      · subst c5
        have H1 : (some false) = some r := by rw [if_pos rfl] at H; exact H
        clear H
        have H := H1
        clear H1
        obtain rfl := Option.some.inj H
        go_enter Try.func7, Try.ntmps7
        go_wp2_with (first | ((with_reducible refine gate_callee (f := 8) rfl ?_); refine goesL_ (some 6) rfl rfl Try.func8 (by kernel_rfl) rfl #[.int .i64 11, .string (⟨#[79, 102, 102]⟩ : ByteArray)] rfl (by (try simp only [List.map_toArray, List.map_cons, List.map_nil]); first | done | rfl | (simp only [List.length_drop, List.length_take]; rfl)) ?_; (with_reducible refine (word_Bool.calls k 11 (⟨#[79, 102, 102]⟩ : ByteArray) false true _ A1.out).mono ?_); rintro e w' ⟨rfl, ⟨nd, rfl⟩⟩; refine ⟨_, rfl, ?_⟩) | ((with_reducible refine gate_callee (f := 8) rfl ?_); refine goesL_ (some 10) rfl rfl Try.func8 (by kernel_rfl) rfl #[.int .i64 12, .string (⟨#[121, 101, 115]⟩ : ByteArray)] rfl (by (try simp only [List.map_toArray, List.map_cons, List.map_nil]); first | done | rfl | (simp only [List.length_drop, List.length_take]; rfl)) ?_; (with_reducible refine (word_Bool.calls k 12 (⟨#[121, 101, 115]⟩ : ByteArray) t107 true _ A2.out).mono ?_); rintro e w' ⟨rfl, ⟨nd, rfl⟩⟩; refine ⟨_, rfl, ?_⟩))
        go_ret
        exact ⟨by first | rfl | (simp; done) | (simp [*]; done) | (simp [wrap64]; done), by repeat (first | exact Drawn0.refl _ | apply Drawn0.step)⟩
      · replace c5 := Bool.eq_false_iff.mpr c5
        subst c5
        have H1 : ((word_Null.f (⟨#[126]⟩ : ByteArray)).bind fun t109 => (if t109 = true then ((word_Merge.f (⟨#[60, 60]⟩ : ByteArray)).bind fun t110 => (if t110 = true then ((word_Merge.f (⟨#[60]⟩ : ByteArray)).bind fun t111 => (if t111 = true then (some false) else ((word_Plain.f k (⟨#[97, 45, 49]⟩ : ByteArray)).bind fun t112 => (if t112 = true then ((word_Plain.f k (⟨#[121, 101, 115]⟩ : ByteArray)).bind fun t113 => (if t113 = true then (some false) else ((word_Plain.f k (⟨#[49, 97]⟩ : ByteArray)).bind fun t114 => (some (!t114))))) else (some false))))) else (some false))) else (some false))) = some r := by rw [if_neg (show ¬ (false = true) by decide)] at H; exact H
        clear H
        have H := H1
        clear H1
        replace H := Option.bind_eq_some_iff.mp H
        obtain ⟨t109, A60, H⟩ := H
        replace H : (if t109 = true then ((word_Merge.f (⟨#[60, 60]⟩ : ByteArray)).bind fun t110 => (if t110 = true then ((word_Merge.f (⟨#[60]⟩ : ByteArray)).bind fun t111 => (if t111 = true then (some false) else ((word_Plain.f k (⟨#[97, 45, 49]⟩ : ByteArray)).bind fun t112 => (if t112 = true then ((word_Plain.f k (⟨#[121, 101, 115]⟩ : ByteArray)).bind fun t113 => (if t113 = true then (some false) else ((word_Plain.f k (⟨#[49, 97]⟩ : ByteArray)).bind fun t114 => (some (!t114))))) else (some false))))) else (some false))) else (some false)) = some r := H
        have A6 := Aside0.mk A60
        clear A60
        by_cases c7 : t109 = true
        · subst c7
          have H1 : ((word_Merge.f (⟨#[60, 60]⟩ : ByteArray)).bind fun t110 => (if t110 = true then ((word_Merge.f (⟨#[60]⟩ : ByteArray)).bind fun t111 => (if t111 = true then (some false) else ((word_Plain.f k (⟨#[97, 45, 49]⟩ : ByteArray)).bind fun t112 => (if t112 = true then ((word_Plain.f k (⟨#[121, 101, 115]⟩ : ByteArray)).bind fun t113 => (if t113 = true then (some false) else ((word_Plain.f k (⟨#[49, 97]⟩ : ByteArray)).bind fun t114 => (some (!t114))))) else (some false))))) else (some false))) = some r := by rw [if_pos rfl] at H; exact H
          clear H
          have H := H1
          clear H1
          replace H := Option.bind_eq_some_iff.mp H
          obtain ⟨t110, A80, H⟩ := H
          replace H : (if t110 = true then ((word_Merge.f (⟨#[60]⟩ : ByteArray)).bind fun t111 => (if t111 = true then (some false) else ((word_Plain.f k (⟨#[97, 45, 49]⟩ : ByteArray)).bind fun t112 => (if t112 = true then ((word_Plain.f k (⟨#[121, 101, 115]⟩ : ByteArray)).bind fun t113 => (if t113 = true then (some false) else ((word_Plain.f k (⟨#[49, 97]⟩ : ByteArray)).bind fun t114 => (some (!t114))))) else (some false))))) else (some false)) = some r := H
          have A8 := Aside0.mk A80
          clear A80
          by_cases c9 : t110 = true
          · subst c9
            have H1 : ((word_Merge.f (⟨#[60]⟩ : ByteArray)).bind fun t111 => (if t111 = true then (some false) else ((word_Plain.f k (⟨#[97, 45, 49]⟩ : ByteArray)).bind fun t112 => (if t112 = true then ((word_Plain.f k (⟨#[121, 101, 115]⟩ : ByteArray)).bind fun t113 => (if t113 = true then (some false) else ((word_Plain.f k (⟨#[49, 97]⟩ : ByteArray)).bind fun t114 => (some (!t114))))) else (some false))))) = some r := by rw [if_pos rfl] at H; exact H
            clear H
            have H := H1
            clear H1
            replace H := Option.bind_eq_some_iff.mp H
            obtain ⟨t111, A100, H⟩ := H
            replace H : (if t111 = true then (some false) else ((word_Plain.f k (⟨#[97, 45, 49]⟩ : ByteArray)).bind fun t112 => (if t112 = true then ((word_Plain.f k (⟨#[121, 101, 115]⟩ : ByteArray)).bind fun t113 => (if t113 = true then (some false) else ((word_Plain.f k (⟨#[49, 97]⟩ : ByteArray)).bind fun t114 => (some (!t114))))) else (some false)))) = some r := H
            have A10 := Aside0.mk A100
            clear A100
            by_cases c11 : t111 = true
            · subst c11
              have H1 : (some false) = some r := by rw [if_pos rfl] at H; exact H
              clear H
              have H := H1
              clear H1
              obtain rfl := Option.some.inj H
              go_enter Try.func7, Try.ntmps7
              go_wp2_with (first | ((with_reducible refine gate_callee (f := 8) rfl ?_); refine goesL_ (some 6) rfl rfl Try.func8 (by kernel_rfl) rfl #[.int .i64 11, .string (⟨#[79, 102, 102]⟩ : ByteArray)] rfl (by (try simp only [List.map_toArray, List.map_cons, List.map_nil]); first | done | rfl | (simp only [List.length_drop, List.length_take]; rfl)) ?_; (with_reducible refine (word_Bool.calls k 11 (⟨#[79, 102, 102]⟩ : ByteArray) false true _ A1.out).mono ?_); rintro e w' ⟨rfl, ⟨nd, rfl⟩⟩; refine ⟨_, rfl, ?_⟩) | ((with_reducible refine gate_callee (f := 8) rfl ?_); refine goesL_ (some 10) rfl rfl Try.func8 (by kernel_rfl) rfl #[.int .i64 12, .string (⟨#[121, 101, 115]⟩ : ByteArray)] rfl (by (try simp only [List.map_toArray, List.map_cons, List.map_nil]); first | done | rfl | (simp only [List.length_drop, List.length_take]; rfl)) ?_; (with_reducible refine (word_Bool.calls k 12 (⟨#[121, 101, 115]⟩ : ByteArray) t107 false _ A2.out).mono ?_); rintro e w' ⟨rfl, ⟨nd, rfl⟩⟩; refine ⟨_, rfl, ?_⟩) | (go_at_call 10; (with_reducible refine (word_Null.calls (⟨#[126]⟩ : ByteArray) true _ A6.out).mono ?_); rintro e w' ⟨rfl, ⟨nd, rfl⟩⟩) | (go_at_call 12; (with_reducible refine (word_Merge.calls (⟨#[60, 60]⟩ : ByteArray) true _ A8.out).mono ?_); rintro e w' ⟨rfl, ⟨nd, rfl⟩⟩) | (go_at_call 12; (with_reducible refine (word_Merge.calls (⟨#[60]⟩ : ByteArray) true _ A10.out).mono ?_); rintro e w' ⟨rfl, ⟨nd, rfl⟩⟩))
              go_ret
              exact ⟨by first | rfl | (simp; done) | (simp [*]; done) | (simp [wrap64]; done), by repeat (first | exact Drawn0.refl _ | apply Drawn0.step)⟩
            · replace c11 := Bool.eq_false_iff.mpr c11
              subst c11
              have H1 : ((word_Plain.f k (⟨#[97, 45, 49]⟩ : ByteArray)).bind fun t112 => (if t112 = true then ((word_Plain.f k (⟨#[121, 101, 115]⟩ : ByteArray)).bind fun t113 => (if t113 = true then (some false) else ((word_Plain.f k (⟨#[49, 97]⟩ : ByteArray)).bind fun t114 => (some (!t114))))) else (some false))) = some r := by rw [if_neg (show ¬ (false = true) by decide)] at H; exact H
              clear H
              have H := H1
              clear H1
              replace H := Option.bind_eq_some_iff.mp H
              obtain ⟨t112, A120, H⟩ := H
              replace H : (if t112 = true then ((word_Plain.f k (⟨#[121, 101, 115]⟩ : ByteArray)).bind fun t113 => (if t113 = true then (some false) else ((word_Plain.f k (⟨#[49, 97]⟩ : ByteArray)).bind fun t114 => (some (!t114))))) else (some false)) = some r := H
              have A12 := Aside0.mk A120
              clear A120
              by_cases c13 : t112 = true
              · subst c13
                have H1 : ((word_Plain.f k (⟨#[121, 101, 115]⟩ : ByteArray)).bind fun t113 => (if t113 = true then (some false) else ((word_Plain.f k (⟨#[49, 97]⟩ : ByteArray)).bind fun t114 => (some (!t114))))) = some r := by rw [if_pos rfl] at H; exact H
                clear H
                have H := H1
                clear H1
                replace H := Option.bind_eq_some_iff.mp H
                obtain ⟨t113, A140, H⟩ := H
                replace H : (if t113 = true then (some false) else ((word_Plain.f k (⟨#[49, 97]⟩ : ByteArray)).bind fun t114 => (some (!t114)))) = some r := H
                have A14 := Aside0.mk A140
                clear A140
                by_cases c15 : t113 = true
                · subst c15
                  have H1 : (some false) = some r := by rw [if_pos rfl] at H; exact H
                  clear H
                  have H := H1
                  clear H1
                  obtain rfl := Option.some.inj H
                  go_enter Try.func7, Try.ntmps7
                  go_wp2_with (first | ((with_reducible refine gate_callee (f := 8) rfl ?_); refine goesL_ (some 6) rfl rfl Try.func8 (by kernel_rfl) rfl #[.int .i64 11, .string (⟨#[79, 102, 102]⟩ : ByteArray)] rfl (by (try simp only [List.map_toArray, List.map_cons, List.map_nil]); first | done | rfl | (simp only [List.length_drop, List.length_take]; rfl)) ?_; (with_reducible refine (word_Bool.calls k 11 (⟨#[79, 102, 102]⟩ : ByteArray) false true _ A1.out).mono ?_); rintro e w' ⟨rfl, ⟨nd, rfl⟩⟩; refine ⟨_, rfl, ?_⟩) | ((with_reducible refine gate_callee (f := 8) rfl ?_); refine goesL_ (some 10) rfl rfl Try.func8 (by kernel_rfl) rfl #[.int .i64 12, .string (⟨#[121, 101, 115]⟩ : ByteArray)] rfl (by (try simp only [List.map_toArray, List.map_cons, List.map_nil]); first | done | rfl | (simp only [List.length_drop, List.length_take]; rfl)) ?_; (with_reducible refine (word_Bool.calls k 12 (⟨#[121, 101, 115]⟩ : ByteArray) t107 false _ A2.out).mono ?_); rintro e w' ⟨rfl, ⟨nd, rfl⟩⟩; refine ⟨_, rfl, ?_⟩) | (go_at_call 10; (with_reducible refine (word_Null.calls (⟨#[126]⟩ : ByteArray) true _ A6.out).mono ?_); rintro e w' ⟨rfl, ⟨nd, rfl⟩⟩) | (go_at_call 12; (with_reducible refine (word_Merge.calls (⟨#[60, 60]⟩ : ByteArray) true _ A8.out).mono ?_); rintro e w' ⟨rfl, ⟨nd, rfl⟩⟩) | (go_at_call 12; (with_reducible refine (word_Merge.calls (⟨#[60]⟩ : ByteArray) false _ A10.out).mono ?_); rintro e w' ⟨rfl, ⟨nd, rfl⟩⟩) | (go_at_call 13; (with_reducible refine (word_Plain.calls k (⟨#[97, 45, 49]⟩ : ByteArray) true _ A12.out).mono ?_); rintro e w' ⟨rfl, ⟨nd, rfl⟩⟩) | (go_at_call 13; (with_reducible refine (word_Plain.calls k (⟨#[121, 101, 115]⟩ : ByteArray) true _ A14.out).mono ?_); rintro e w' ⟨rfl, ⟨nd, rfl⟩⟩))
                  go_ret
                  exact ⟨by first | rfl | (simp; done) | (simp [*]; done) | (simp [wrap64]; done), by repeat (first | exact Drawn0.refl _ | apply Drawn0.step)⟩
                · replace c15 := Bool.eq_false_iff.mpr c15
                  subst c15
                  have H1 : ((word_Plain.f k (⟨#[49, 97]⟩ : ByteArray)).bind fun t114 => (some (!t114))) = some r := by rw [if_neg (show ¬ (false = true) by decide)] at H; exact H
                  clear H
                  have H := H1
                  clear H1
                  replace H := Option.bind_eq_some_iff.mp H
                  obtain ⟨t114, A160, H⟩ := H
                  replace H : (some (!t114)) = some r := H
                  have A16 := Aside0.mk A160
                  clear A160
                  obtain rfl := Option.some.inj H
                  go_enter Try.func7, Try.ntmps7
                  go_wp2_with (first | ((with_reducible refine gate_callee (f := 8) rfl ?_); refine goesL_ (some 6) rfl rfl Try.func8 (by kernel_rfl) rfl #[.int .i64 11, .string (⟨#[79, 102, 102]⟩ : ByteArray)] rfl (by (try simp only [List.map_toArray, List.map_cons, List.map_nil]); first | done | rfl | (simp only [List.length_drop, List.length_take]; rfl)) ?_; (with_reducible refine (word_Bool.calls k 11 (⟨#[79, 102, 102]⟩ : ByteArray) false true _ A1.out).mono ?_); rintro e w' ⟨rfl, ⟨nd, rfl⟩⟩; refine ⟨_, rfl, ?_⟩) | ((with_reducible refine gate_callee (f := 8) rfl ?_); refine goesL_ (some 10) rfl rfl Try.func8 (by kernel_rfl) rfl #[.int .i64 12, .string (⟨#[121, 101, 115]⟩ : ByteArray)] rfl (by (try simp only [List.map_toArray, List.map_cons, List.map_nil]); first | done | rfl | (simp only [List.length_drop, List.length_take]; rfl)) ?_; (with_reducible refine (word_Bool.calls k 12 (⟨#[121, 101, 115]⟩ : ByteArray) t107 false _ A2.out).mono ?_); rintro e w' ⟨rfl, ⟨nd, rfl⟩⟩; refine ⟨_, rfl, ?_⟩) | (go_at_call 10; (with_reducible refine (word_Null.calls (⟨#[126]⟩ : ByteArray) true _ A6.out).mono ?_); rintro e w' ⟨rfl, ⟨nd, rfl⟩⟩) | (go_at_call 12; (with_reducible refine (word_Merge.calls (⟨#[60, 60]⟩ : ByteArray) true _ A8.out).mono ?_); rintro e w' ⟨rfl, ⟨nd, rfl⟩⟩) | (go_at_call 12; (with_reducible refine (word_Merge.calls (⟨#[60]⟩ : ByteArray) false _ A10.out).mono ?_); rintro e w' ⟨rfl, ⟨nd, rfl⟩⟩) | (go_at_call 13; (with_reducible refine (word_Plain.calls k (⟨#[97, 45, 49]⟩ : ByteArray) true _ A12.out).mono ?_); rintro e w' ⟨rfl, ⟨nd, rfl⟩⟩) | (go_at_call 13; (with_reducible refine (word_Plain.calls k (⟨#[121, 101, 115]⟩ : ByteArray) false _ A14.out).mono ?_); rintro e w' ⟨rfl, ⟨nd, rfl⟩⟩) | (go_at_call 13; (with_reducible refine (word_Plain.calls k (⟨#[49, 97]⟩ : ByteArray) t114 _ A16.out).mono ?_); rintro e w' ⟨rfl, ⟨nd, rfl⟩⟩))
                  go_ret
                  exact ⟨by first | rfl | (simp; done) | (simp [*]; done) | (simp [wrap64]; done), by repeat (first | exact Drawn0.refl _ | apply Drawn0.step)⟩
              · replace c13 := Bool.eq_false_iff.mpr c13
                subst c13
                have H1 : (some false) = some r := by rw [if_neg (show ¬ (false = true) by decide)] at H; exact H
                clear H
                have H := H1
                clear H1
                obtain rfl := Option.some.inj H
                go_enter Try.func7, Try.ntmps7
                go_wp2_with (first | ((with_reducible refine gate_callee (f := 8) rfl ?_); refine goesL_ (some 6) rfl rfl Try.func8 (by kernel_rfl) rfl #[.int .i64 11, .string (⟨#[79, 102, 102]⟩ : ByteArray)] rfl (by (try simp only [List.map_toArray, List.map_cons, List.map_nil]); first | done | rfl | (simp only [List.length_drop, List.length_take]; rfl)) ?_; (with_reducible refine (word_Bool.calls k 11 (⟨#[79, 102, 102]⟩ : ByteArray) false true _ A1.out).mono ?_); rintro e w' ⟨rfl, ⟨nd, rfl⟩⟩; refine ⟨_, rfl, ?_⟩) | ((with_reducible refine gate_callee (f := 8) rfl ?_); refine goesL_ (some 10) rfl rfl Try.func8 (by kernel_rfl) rfl #[.int .i64 12, .string (⟨#[121, 101, 115]⟩ : ByteArray)] rfl (by (try simp only [List.map_toArray, List.map_cons, List.map_nil]); first | done | rfl | (simp only [List.length_drop, List.length_take]; rfl)) ?_; (with_reducible refine (word_Bool.calls k 12 (⟨#[121, 101, 115]⟩ : ByteArray) t107 false _ A2.out).mono ?_); rintro e w' ⟨rfl, ⟨nd, rfl⟩⟩; refine ⟨_, rfl, ?_⟩) | (go_at_call 10; (with_reducible refine (word_Null.calls (⟨#[126]⟩ : ByteArray) true _ A6.out).mono ?_); rintro e w' ⟨rfl, ⟨nd, rfl⟩⟩) | (go_at_call 12; (with_reducible refine (word_Merge.calls (⟨#[60, 60]⟩ : ByteArray) true _ A8.out).mono ?_); rintro e w' ⟨rfl, ⟨nd, rfl⟩⟩) | (go_at_call 12; (with_reducible refine (word_Merge.calls (⟨#[60]⟩ : ByteArray) false _ A10.out).mono ?_); rintro e w' ⟨rfl, ⟨nd, rfl⟩⟩) | (go_at_call 13; (with_reducible refine (word_Plain.calls k (⟨#[97, 45, 49]⟩ : ByteArray) false _ A12.out).mono ?_); rintro e w' ⟨rfl, ⟨nd, rfl⟩⟩))
                go_ret
                exact ⟨by first | rfl | (simp; done) | (simp [*]; done) | (simp [wrap64]; done), by repeat (first | exact Drawn0.refl _ | apply Drawn0.step)⟩
          · replace c9 := Bool.eq_false_iff.mpr c9
            subst c9
            have H1 : (some false) = some r := by rw [if_neg (show ¬ (false = true) by decide)] at H; exact H
            clear H
            have H := H1
            clear H1
            obtain rfl := Option.some.inj H
            go_enter Try.func7, Try.ntmps7
            go_wp2_with (first | ((with_reducible refine gate_callee (f := 8) rfl ?_); refine goesL_ (some 6) rfl rfl Try.func8 (by kernel_rfl) rfl #[.int .i64 11, .string (⟨#[79, 102, 102]⟩ : ByteArray)] rfl (by (try simp only [List.map_toArray, List.map_cons, List.map_nil]); first | done | rfl | (simp only [List.length_drop, List.length_take]; rfl)) ?_; (with_reducible refine (word_Bool.calls k 11 (⟨#[79, 102, 102]⟩ : ByteArray) false true _ A1.out).mono ?_); rintro e w' ⟨rfl, ⟨nd, rfl⟩⟩; refine ⟨_, rfl, ?_⟩) | ((with_reducible refine gate_callee (f := 8) rfl ?_); refine goesL_ (some 10) rfl rfl Try.func8 (by kernel_rfl) rfl #[.int .i64 12, .string (⟨#[121, 101, 115]⟩ : ByteArray)] rfl (by (try simp only [List.map_toArray, List.map_cons, List.map_nil]); first | done | rfl | (simp only [List.length_drop, List.length_take]; rfl)) ?_; (with_reducible refine (word_Bool.calls k 12 (⟨#[121, 101, 115]⟩ : ByteArray) t107 false _ A2.out).mono ?_); rintro e w' ⟨rfl, ⟨nd, rfl⟩⟩; refine ⟨_, rfl, ?_⟩) | (go_at_call 10; (with_reducible refine (word_Null.calls (⟨#[126]⟩ : ByteArray) true _ A6.out).mono ?_); rintro e w' ⟨rfl, ⟨nd, rfl⟩⟩) | (go_at_call 12; (with_reducible refine (word_Merge.calls (⟨#[60, 60]⟩ : ByteArray) false _ A8.out).mono ?_); rintro e w' ⟨rfl, ⟨nd, rfl⟩⟩))
            go_ret
            exact ⟨by first | rfl | (simp; done) | (simp [*]; done) | (simp [wrap64]; done), by repeat (first | exact Drawn0.refl _ | apply Drawn0.step)⟩
        · replace c7 := Bool.eq_false_iff.mpr c7
          subst c7
          have H1 : (some false) = some r := by rw [if_neg (show ¬ (false = true) by decide)] at H; exact H
          clear H
          have H := H1
          clear H1
          obtain rfl := Option.some.inj H
          go_enter Try.func7, Try.ntmps7
          go_wp2_with (first | ((with_reducible refine gate_callee (f := 8) rfl ?_); refine goesL_ (some 6) rfl rfl Try.func8 (by kernel_rfl) rfl #[.int .i64 11, .string (⟨#[79, 102, 102]⟩ : ByteArray)] rfl (by (try simp only [List.map_toArray, List.map_cons, List.map_nil]); first | done | rfl | (simp only [List.length_drop, List.length_take]; rfl)) ?_; (with_reducible refine (word_Bool.calls k 11 (⟨#[79, 102, 102]⟩ : ByteArray) false true _ A1.out).mono ?_); rintro e w' ⟨rfl, ⟨nd, rfl⟩⟩; refine ⟨_, rfl, ?_⟩) | ((with_reducible refine gate_callee (f := 8) rfl ?_); refine goesL_ (some 10) rfl rfl Try.func8 (by kernel_rfl) rfl #[.int .i64 12, .string (⟨#[121, 101, 115]⟩ : ByteArray)] rfl (by (try simp only [List.map_toArray, List.map_cons, List.map_nil]); first | done | rfl | (simp only [List.length_drop, List.length_take]; rfl)) ?_; (with_reducible refine (word_Bool.calls k 12 (⟨#[121, 101, 115]⟩ : ByteArray) t107 false _ A2.out).mono ?_); rintro e w' ⟨rfl, ⟨nd, rfl⟩⟩; refine ⟨_, rfl, ?_⟩) | (go_at_call 10; (with_reducible refine (word_Null.calls (⟨#[126]⟩ : ByteArray) false _ A6.out).mono ?_); rintro e w' ⟨rfl, ⟨nd, rfl⟩⟩))
          go_ret
          exact ⟨by first | rfl | (simp; done) | (simp [*]; done) | (simp [wrap64]; done), by repeat (first | exact Drawn0.refl _ | apply Drawn0.step)⟩
    · replace c4 := Bool.eq_false_iff.mpr c4
      subst c4
      have H1 : (some false) = some r := by rw [if_neg (show ¬ (false = true) by decide)] at H; exact H
      clear H
      have H := H1
      clear H1
      obtain rfl := Option.some.inj H
      go_enter Try.func7, Try.ntmps7
      go_wp2_with (first | ((with_reducible refine gate_callee (f := 8) rfl ?_); refine goesL_ (some 6) rfl rfl Try.func8 (by kernel_rfl) rfl #[.int .i64 11, .string (⟨#[79, 102, 102]⟩ : ByteArray)] rfl (by (try simp only [List.map_toArray, List.map_cons, List.map_nil]); first | done | rfl | (simp only [List.length_drop, List.length_take]; rfl)) ?_; (with_reducible refine (word_Bool.calls k 11 (⟨#[79, 102, 102]⟩ : ByteArray) false false _ A1.out).mono ?_); rintro e w' ⟨rfl, ⟨nd, rfl⟩⟩; refine ⟨_, rfl, ?_⟩) | ((with_reducible refine gate_callee (f := 8) rfl ?_); refine goesL_ (some 10) rfl rfl Try.func8 (by kernel_rfl) rfl #[.int .i64 12, .string (⟨#[121, 101, 115]⟩ : ByteArray)] rfl (by (try simp only [List.map_toArray, List.map_cons, List.map_nil]); first | done | rfl | (simp only [List.length_drop, List.length_take]; rfl)) ?_; (with_reducible refine (word_Bool.calls k 12 (⟨#[121, 101, 115]⟩ : ByteArray) t107 t108 _ A2.out).mono ?_); rintro e w' ⟨rfl, ⟨nd, rfl⟩⟩; refine ⟨_, rfl, ?_⟩))
      go_ret
      exact ⟨by first | rfl | (simp; done) | (simp [*]; done) | (simp [wrap64]; done), by repeat (first | exact Drawn0.refl _ | apply Drawn0.step)⟩

end Go.Proofs.Ytkphlddgfmgogaa.PZ
