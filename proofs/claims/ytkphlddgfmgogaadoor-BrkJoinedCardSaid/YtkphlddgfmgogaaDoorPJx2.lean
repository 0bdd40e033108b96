/- Written by this session's own program (xprint, made over the kit's print): Lean functions with the same answers as the Go functions, and the proofs of that. Not trusted: Lean checks it. -/
import Derived.Test.YtkphlddgfmgogaaDoorPJx0
namespace Go.Proofs.YtkphlddgfmgogaaDoor.PJ
open Go.RowKit Go.Proofs.YtkphlddgfmgogaaDoorW.PrintWords Go.Proofs.YtkphlddgfmgogaaDoorW.PrintLast Go.Proofs.YtkphlddgfmgogaaDoorW.PrintMore
attribute [local go_sem] max2_int min2_int max_two min_two max_three min_three max_four min_four   -- for this text's walks alone
set_option linter.unusedVariables false
set_option linter.unusedSimpArgs false

/-! ### stringslite_HasPrefix: function 37 -/
def stringslite_HasPrefix.f (a0 : ByteArray) (a1 : ByteArray) : Option (Bool) := if (a0.size : Int) ≥ (a1.size : Int) then (if 0 ≤ (a1.size : Int) then (if (a1.size : Int) ≤ (a0.size : Int) then (some ((a0.extract 0 ((a1.size : Int) : Int).toNat).toList == a1.toList)) else (none)) else (none)) else (some false)
set_option maxHeartbeats 8000000 in
set_option maxRecDepth 100000 in
theorem stringslite_HasPrefix.calls (a0 : ByteArray) (a1 : ByteArray) (r : Bool) (w : World) (h : stringslite_HasPrefix.f a0 a1 = some r) :
    Calls Tryd.prog 37 #[.string a0, .string a1] w fun e w' => e = .returned (.bool r) ∧ Drawn0 w w' := by
  have H : (if (a0.size : Int) ≥ (a1.size : Int) then (if 0 ≤ (a1.size : Int) then (if (a1.size : Int) ≤ (a0.size : Int) then (some ((a0.extract 0 ((a1.size : Int) : Int).toNat).toList == a1.toList)) else (none)) else (none)) else (some false)) = some r := h
  clear h
  by_cases c3 : (a0.size : Int) ≥ (a1.size : Int)
  · rw [if_pos c3] at H
    have c3b0 : decide ((a1.size : Int) ≤ (a0.size : Int)) = true := decide_eq_true c3
    have c3b1 : decide (a1.size ≤ a0.size) = true := decide_eq_true (Int.ofNat_le.mp c3)
    clear c3
    by_cases c4 : 0 ≤ (a1.size : Int)
    · rw [if_pos c4] at H
      have c4b0 := eq_true c4
      have c4b1 : decide (0 ≤ (a1.size : Int)) = true := decide_eq_true c4
      clear c4
      by_cases c5 : (a1.size : Int) ≤ (a0.size : Int)
      · rw [if_pos c5] at H
        have c5b0 := eq_true c5
        have c5b1 : decide ((a1.size : Int) ≤ (a0.size : Int)) = true := decide_eq_true c5
        clear c5
        obtain rfl := Option.some.inj H
        go_enter Tryd.func37, Tryd.ntmps37
        go_wp2
        go_ret
        exact ⟨by first | rfl | (simp; done) | (simp [*]; done) | (simp [wrap64]; done), by repeat (first | exact Drawn0.refl _ | apply Drawn0.step)⟩
      · rw [if_neg c5] at H
        exact absurd H (by simp)
    · rw [if_neg c4] at H
      exact absurd H (by simp)
  · rw [if_neg c3] at H
    have c3b0 : decide ((a1.size : Int) ≤ (a0.size : Int)) = false := decide_eq_false c3
    have c3b1 : decide (a1.size ≤ a0.size) = false := decide_eq_false (fun h => c3 (Int.ofNat_le.mpr h))
    clear c3
    obtain rfl := Option.some.inj H
    go_enter Tryd.func37, Tryd.ntmps37
    go_wp2
    go_ret
    exact ⟨by first | rfl | (simp; done) | (simp [*]; done) | (simp [wrap64]; done), by repeat (first | exact Drawn0.refl _ | apply Drawn0.step)⟩

/-! ### strings_HasPrefix: function 28 -/
def strings_HasPrefix.f (a0 : ByteArray) (a1 : ByteArray) : Option (Bool) := (stringslite_HasPrefix.f a0 a1).bind fun t101 => (some t101)
set_option maxHeartbeats 8000000 in
set_option maxRecDepth 100000 in
theorem strings_HasPrefix.calls (a0 : ByteArray) (a1 : ByteArray) (r : Bool) (w : World) (h : strings_HasPrefix.f a0 a1 = some r) :
    Calls Tryd.prog 28 #[.string a0, .string a1] w fun e w' => e = .returned (.bool r) ∧ Drawn0 w w' := by
  have H : ((stringslite_HasPrefix.f a0 a1).bind fun t101 => (some t101)) = some r := h
  clear h
  replace H := Option.bind_eq_some_iff.mp H
  obtain ⟨t101, A30, H⟩ := H
  replace H : (some t101) = some r := H
  have A3 := Aside0.mk A30
  clear A30
  obtain rfl := Option.some.inj H
  go_enter Tryd.func28, Tryd.ntmps28
  go_wp2_with (first | ((with_reducible refine gate_callee (f := 37) rfl ?_); refine goesL_ (some 7) rfl rfl Tryd.func37 (by kernel_rfl) rfl #[.string a0, .string a1] rfl (by (try simp only [List.map_toArray, List.map_cons, List.map_nil]); first | done | rfl | (simp only [List.length_drop, List.length_take]; rfl)) ?_; (with_reducible refine (stringslite_HasPrefix.calls a0 a1 t101 _ A3.out).mono ?_); rintro e w' ⟨rfl, ⟨nd, rfl⟩⟩; refine ⟨_, rfl, ?_⟩))
  go_ret
  exact ⟨by first | rfl | (simp; done) | (simp [*]; done) | (simp [wrap64]; done), by repeat (first | exact Drawn0.refl _ | apply Drawn0.step)⟩

/-! ### brk_Break: function 12 -/
mutual
def brk_Break.j0 : Nat → Int → ByteArray → Int → Bool → Option (Int)
  | 0, _, _, _, _ => none
  | k + 1, x0, x1, x2, x16 => if x16 = true then (some 0) else (if 0 ≤ x2 then (if x2 ≤ (x1.size : Int) then (if x0 = 11 then ((strings_HasPrefix.f (x1.extract (x2 : Int).toNat x1.size) (⟨#[226, 128, 168]⟩ : ByteArray)).bind fun t102 => (if t102 = true then (brk_Break.j1 k x0 0 (x1.extract (x2 : Int).toNat x1.size) true) else ((strings_HasPrefix.f (x1.extract (x2 : Int).toNat x1.size) (⟨#[226, 128, 169]⟩ : ByteArray)).bind fun t103 => (brk_Break.j1 k x0 0 (x1.extract (x2 : Int).toNat x1.size) t103)))) else (brk_Break.j1 k x0 0 (x1.extract (x2 : Int).toNat x1.size) false)) else (none)) else (none))
def brk_Break.j1 : Nat → Int → Int → ByteArray → Bool → Option (Int)
  | 0, _, _, _, _ => none
  | k + 1, x0, x7, x8, x20 => if x20 = true then (some (wrap64 ((wrap64 ((wrap64 (x7 + 1)) + 1)) + 1))) else (if x0 = 11 then ((strings_HasPrefix.f x8 (⟨#[194, 133]⟩ : ByteArray)).bind fun t104 => (brk_Break.j2 k x7 x8 t104)) else (brk_Break.j2 k x7 x8 false))
def brk_Break.j2 : Nat → Int → ByteArray → Bool → Option (Int)
  | 0, _, _, _ => none
  | k + 1, x7, x8, x31 => if x31 = true then (brk_Break.j3 k x7 x8 x31) else ((strings_HasPrefix.f x8 (⟨#[13, 10]⟩ : ByteArray)).bind fun t105 => (brk_Break.j3 k x7 x8 t105))
def brk_Break.j3 : Nat → Int → ByteArray → Bool → Option (Int)
  | 0, _, _, _ => none
  | k + 1, x7, x8, x31 => if x31 = true then (some (wrap64 ((wrap64 (x7 + 1)) + 1))) else (if 0 < (x8.size : Int) then (if (bt x8 0) = 13 then (some (wrap64 (x7 + 1))) else (if (bt x8 0) = 10 then (some (wrap64 (x7 + 1))) else (some x7))) else (none))
end
def brk_Break.f (k : Nat) (a0 : Int) (a1 : ByteArray) (a2 : Int) : Option (Int) := if a2 < 0 then (brk_Break.j0 k a0 a1 a2 true) else (brk_Break.j0 k a0 a1 a2 (decide (a2 ≥ (a1.size : Int))))
theorem brk_Break.mono_l : ∀ k, (∀ y0 y1 y2 y3, LeO (brk_Break.j0 k y0 y1 y2 y3) (brk_Break.j0 (k + 1) y0 y1 y2 y3)) ∧ (∀ y0 y1 y2 y3, LeO (brk_Break.j1 k y0 y1 y2 y3) (brk_Break.j1 (k + 1) y0 y1 y2 y3)) ∧ (∀ y0 y1 y2, LeO (brk_Break.j2 k y0 y1 y2) (brk_Break.j2 (k + 1) y0 y1 y2)) ∧ (∀ y0 y1 y2, LeO (brk_Break.j3 k y0 y1 y2) (brk_Break.j3 (k + 1) y0 y1 y2))
  | 0 => ⟨fun _ _ _ _ r h => by simp [brk_Break.j0] at h, fun _ _ _ _ r h => by simp [brk_Break.j1] at h, fun _ _ _ r h => by simp [brk_Break.j2] at h, fun _ _ _ r h => by simp [brk_Break.j3] at h⟩
  | k + 1 => by
    obtain ⟨ih0, ih1, ih2, ih3⟩ := brk_Break.mono_l k
    refine ⟨?_, ?_, ?_, ?_⟩
    · intro y0 y1 y2 y3
      unfold brk_Break.j0
      repeat' first
      | (with_reducible exact ih0 _ _ _ _)
      | (with_reducible exact ih1 _ _ _ _)
      | (with_reducible exact ih2 _ _ _)
      | (with_reducible exact ih3 _ _ _)
      | (with_reducible exact LeO.refl _)
      | (with_reducible exact LeO.none _)
      | (with_reducible refine LeO.ite ?_ ?_)
      | (with_reducible refine LeO.bind ?_ (fun _ => ?_))
      | exact ih0 _ _ _ _
      | exact ih1 _ _ _ _
      | exact ih2 _ _ _
      | exact ih3 _ _ _
      | exact LeO.none _
      | refine LeO.ite ?_ ?_
      | refine LeO.bind ?_ (fun _ => ?_)
    · intro y0 y1 y2 y3
      unfold brk_Break.j1
      repeat' first
      | (with_reducible exact ih0 _ _ _ _)
      | (with_reducible exact ih1 _ _ _ _)
      | (with_reducible exact ih2 _ _ _)
      | (with_reducible exact ih3 _ _ _)
      | (with_reducible exact LeO.refl _)
      | (with_reducible exact LeO.none _)
      | (with_reducible refine LeO.ite ?_ ?_)
      | (with_reducible refine LeO.bind ?_ (fun _ => ?_))
      | exact ih0 _ _ _ _
      | exact ih1 _ _ _ _
      | exact ih2 _ _ _
      | exact ih3 _ _ _
      | exact LeO.none _
      | refine LeO.ite ?_ ?_
      | refine LeO.bind ?_ (fun _ => ?_)
    · intro y0 y1 y2
      unfold brk_Break.j2
      repeat' first
      | (with_reducible exact ih0 _ _ _ _)
      | (with_reducible exact ih1 _ _ _ _)
      | (with_reducible exact ih2 _ _ _)
      | (with_reducible exact ih3 _ _ _)
      | (with_reducible exact LeO.refl _)
      | (with_reducible exact LeO.none _)
      | (with_reducible refine LeO.ite ?_ ?_)
      | (with_reducible refine LeO.bind ?_ (fun _ => ?_))
      | exact ih0 _ _ _ _
      | exact ih1 _ _ _ _
      | exact ih2 _ _ _
      | exact ih3 _ _ _
      | exact LeO.none _
      | refine LeO.ite ?_ ?_
      | refine LeO.bind ?_ (fun _ => ?_)
    · intro y0 y1 y2
      unfold brk_Break.j3
      repeat' first
      | (with_reducible exact ih0 _ _ _ _)
      | (with_reducible exact ih1 _ _ _ _)
      | (with_reducible exact ih2 _ _ _)
      | (with_reducible exact ih3 _ _ _)
      | (with_reducible exact LeO.refl _)
      | (with_reducible exact LeO.none _)
      | (with_reducible refine LeO.ite ?_ ?_)
      | (with_reducible refine LeO.bind ?_ (fun _ => ?_))
      | exact ih0 _ _ _ _
      | exact ih1 _ _ _ _
      | exact ih2 _ _ _
      | exact ih3 _ _ _
      | exact LeO.none _
      | refine LeO.ite ?_ ?_
      | refine LeO.bind ?_ (fun _ => ?_)
theorem brk_Break.mono : ∀ a0 a1 a2 k, LeO (brk_Break.f k a0 a1 a2) (brk_Break.f (k + 1) a0 a1 a2) := by
  intro a0 a1 a2 k
  obtain ⟨ih0, ih1, ih2, ih3⟩ := brk_Break.mono_l k
  unfold brk_Break.f
  repeat' first
      | (with_reducible exact ih0 _ _ _ _)
      | (with_reducible exact ih1 _ _ _ _)
      | (with_reducible exact ih2 _ _ _)
      | (with_reducible exact ih3 _ _ _)
      | (with_reducible exact LeO.refl _)
      | (with_reducible exact LeO.none _)
      | (with_reducible refine LeO.ite ?_ ?_)
      | (with_reducible refine LeO.bind ?_ (fun _ => ?_))
      | exact ih0 _ _ _ _
      | exact ih1 _ _ _ _
      | exact ih2 _ _ _
      | exact ih3 _ _ _
      | exact LeO.none _
      | refine LeO.ite ?_ ?_
      | refine LeO.bind ?_ (fun _ => ?_)
set_option maxHeartbeats 8000000 in
set_option maxRecDepth 100000 in
theorem brk_Break.calls (k : Nat) (a0 : Int) (a1 : ByteArray) (a2 : Int) (r : Int) (w : World) (h : brk_Break.f k a0 a1 a2 = some r) :
    Calls Tryd.prog 12 #[.int .i64 a0, .string a1, .int .i64 a2] w fun e w' => e = .returned (.int .i64 r) ∧ Drawn0 w w' := by
  have H : (if a2 < 0 then (brk_Break.j0 k a0 a1 a2 true) else (brk_Break.j0 k a0 a1 a2 (decide (a2 ≥ (a1.size : Int))))) = some r := h
  clear h
  have HC4 := Aside0.mk H
  clear H
  go_enter Tryd.func12, Tryd.ntmps12
  go_upto_region 1 with (fail)
  go_cut [16] (fun v16 wc => ∃ (kq : Nat) (x16_3 : Bool), v16 = .bool x16_3 ∧ Aside0 (brk_Break.j0 kq a0 a1 a2 x16_3 = some r) ∧ Aside0 (kq ≤ k) ∧ Drawn0 w wc)
  case first =>
    have H := HC4.out
    clear HC4
    by_cases c5 : a2 < 0
    · rw [if_pos c5] at H
      have c5b0 : decide (a2 < 0) = true := decide_eq_true c5
      clear c5
      (first | rw [c5b0] | (simp only [i64_w, i32_w]; rw [c5b0]) | skip)
      have H' := Aside0.mk H
      clear H
      go_wp2
      go_meet
      case rel => exact ⟨_, (true), (by first | rfl | (simp; done) | (simp [*]; done) | (simp [wrap64]; done)), H', ⟨by first | omega | exact Nat.le_refl _⟩, by repeat (first | exact Drawn0.refl _ | apply Drawn0.step)⟩
    · rw [if_neg c5] at H
      have c5b0 : decide (a2 < 0) = false := decide_eq_false c5
      clear c5
      (first | rw [c5b0] | (simp only [i64_w, i32_w]; rw [c5b0]) | skip)
      have H' := Aside0.mk H
      clear H
      go_wp2
      go_meet
      case rel => exact ⟨_, (decide (a2 ≥ (a1.size : Int))), (by first | rfl | (simp; done) | (simp [*]; done) | (simp [wrap64]; done)), H', ⟨by first | omega | exact Nat.le_refl _⟩, by repeat (first | exact Drawn0.refl _ | apply Drawn0.step)⟩
  case rest =>
    clear HC4
    try clear c1
    try clear p2
    try clear c5
    try clear c5b0
    obtain ⟨kq, x16_3, rfl, HA, HJ3, ⟨mc3, rfl⟩⟩ := hcut
    cases kq with
    | zero => exact absurd HA.out (by simp [brk_Break.j0])
    | succ kj3 =>
      have H := HA.out
      clear HA
      simp only [brk_Break.j0] at H
      by_cases c6 : x16_3 = true
      · subst c6
        have H1 : (some 0) = some r := by rw [if_pos rfl] at H; exact H
        clear H
        have H := H1
        clear H1
        obtain rfl := Option.some.inj H
        go_wp2
        go_ret
        exact ⟨by first | rfl | (simp; done) | (simp [*]; done) | (simp [wrap64]; done), by repeat (first | exact Drawn0.refl _ | apply Drawn0.step)⟩
      · replace c6 := Bool.eq_false_iff.mpr c6
        subst c6
        have H1 : (if 0 ≤ a2 then (if a2 ≤ (a1.size : Int) then (if a0 = 11 then ((strings_HasPrefix.f (a1.extract (a2 : Int).toNat a1.size) (⟨#[226, 128, 168]⟩ : ByteArray)).bind fun t102 => (if t102 = true then (brk_Break.j1 kj3 a0 0 (a1.extract (a2 : Int).toNat a1.size) true) else ((strings_HasPrefix.f (a1.extract (a2 : Int).toNat a1.size) (⟨#[226, 128, 169]⟩ : ByteArray)).bind fun t103 => (brk_Break.j1 kj3 a0 0 (a1.extract (a2 : Int).toNat a1.size) t103)))) else (brk_Break.j1 kj3 a0 0 (a1.extract (a2 : Int).toNat a1.size) false)) else (none)) else (none)) = some r := by rw [if_neg (show ¬ (false = true) by decide)] at H; exact H
        clear H
        have H := H1
        clear H1
        by_cases c7 : 0 ≤ a2
        · rw [if_pos c7] at H
          have c7b0 := eq_true c7
          have c7b1 : decide (0 ≤ a2) = true := decide_eq_true c7
          clear c7
          by_cases c8 : a2 ≤ (a1.size : Int)
          · rw [if_pos c8] at H
            have c8b0 := eq_true c8
            have c8b1 : decide (a2 ≤ (a1.size : Int)) = true := decide_eq_true c8
            clear c8
            have HC9 := Aside0.mk H
            clear H
            go_upto_region 5 with (fail)
            go_cut [20] (fun v20 wc => ∃ (kq : Nat) (x20_8 : Bool), v20 = .bool x20_8 ∧ Aside0 (brk_Break.j1 kq a0 0 (a1.extract (a2 : Int).toNat a1.size) x20_8 = some r) ∧ Aside0 (kq ≤ kj3) ∧ Drawn0 w wc)
            case first =>
              have H := HC9.out
              clear HC9
              by_cases c10 : a0 = 11
              · rw [if_pos c10] at H
                have c10b0 : (a0 == 11) = true := beq_iff_eq.mpr c10
                have c10b1 : (a0 != 11) = false := bne_eq_false_iff_eq.mpr c10
                clear c10
                (first | rw [c10b0] | (simp only [i64_w, i32_w]; rw [c10b0]) | skip)
                replace H := Option.bind_eq_some_iff.mp H
                obtain ⟨t102, A110, H⟩ := H
                replace H : (if t102 = true then (brk_Break.j1 kj3 a0 0 (a1.extract (a2 : Int).toNat a1.size) true) else ((strings_HasPrefix.f (a1.extract (a2 : Int).toNat a1.size) (⟨#[226, 128, 169]⟩ : ByteArray)).bind fun t103 => (brk_Break.j1 kj3 a0 0 (a1.extract (a2 : Int).toNat a1.size) t103))) = some r := H
                have A11 := Aside0.mk A110
                clear A110
                by_cases c12 : t102 = true
                · subst c12
                  have H1 : (brk_Break.j1 kj3 a0 0 (a1.extract (a2 : Int).toNat a1.size) true) = some r := by rw [if_pos rfl] at H; exact H
                  clear H
                  have H := H1
                  clear H1
                  have H' := Aside0.mk H
                  clear H
                  go_wp2_with (first | (go_at_call 28; (try (rename_i hK_; simp only [List.append] at hK_)); (with_reducible refine (strings_HasPrefix.calls (a1.extract (a2 : Int).toNat a1.size) (⟨#[226, 128, 168]⟩ : ByteArray) true _ A11.out).mono ?_); rintro e w' ⟨rfl, ⟨nd, rfl⟩⟩))
                  go_meet
                  case rel => exact ⟨_, (true), (by first | rfl | (simp; done) | (simp [*]; done) | (simp [wrap64]; done)), H', ⟨by have := HJ3.out; first | omega | exact Nat.le_refl _⟩, by repeat (first | exact Drawn0.refl _ | apply Drawn0.step)⟩
                · replace c12 := Bool.eq_false_iff.mpr c12
                  subst c12
                  have H1 : ((strings_HasPrefix.f (a1.extract (a2 : Int).toNat a1.size) (⟨#[226, 128, 169]⟩ : ByteArray)).bind fun t103 => (brk_Break.j1 kj3 a0 0 (a1.extract (a2 : Int).toNat a1.size) t103)) = some r := by rw [if_neg (show ¬ (false = true) by decide)] at H; exact H
                  clear H
                  have H := H1
                  clear H1
                  replace H := Option.bind_eq_some_iff.mp H
                  obtain ⟨t103, A130, H⟩ := H
                  replace H : (brk_Break.j1 kj3 a0 0 (a1.extract (a2 : Int).toNat a1.size) t103) = some r := H
                  have A13 := Aside0.mk A130
                  clear A130
                  have H' := Aside0.mk H
                  clear H
                  go_wp2_with (first | (go_at_call 28; (try (rename_i hK_; simp only [List.append] at hK_)); (with_reducible refine (strings_HasPrefix.calls (a1.extract (a2 : Int).toNat a1.size) (⟨#[226, 128, 168]⟩ : ByteArray) false _ A11.out).mono ?_); rintro e w' ⟨rfl, ⟨nd, rfl⟩⟩) | (go_at_call 28; (try (rename_i hK_; simp only [List.append] at hK_)); (with_reducible refine (strings_HasPrefix.calls (a1.extract (a2 : Int).toNat a1.size) (⟨#[226, 128, 169]⟩ : ByteArray) t103 _ A13.out).mono ?_); rintro e w' ⟨rfl, ⟨nd, rfl⟩⟩))
                  go_meet
                  case rel => exact ⟨_, (t103), (by first | rfl | (simp; done) | (simp [*]; done) | (simp [wrap64]; done)), H', ⟨by have := HJ3.out; first | omega | exact Nat.le_refl _⟩, by repeat (first | exact Drawn0.refl _ | apply Drawn0.step)⟩
              · rw [if_neg c10] at H
                have c10b0 : (a0 == 11) = false := beq_eq_false_iff_ne.mpr c10
                have c10b1 : (a0 != 11) = true := bne_iff_ne.mpr c10
                (first | rw [c10b0] | (simp only [i64_w, i32_w]; rw [c10b0]) | skip)
                have H' := Aside0.mk H
                clear H
                go_wp2
                go_meet
                case rel => exact ⟨_, (false), (by first | rfl | (simp; done) | (simp [*]; done) | (simp [wrap64]; done)), H', ⟨by have := HJ3.out; first | omega | exact Nat.le_refl _⟩, by repeat (first | exact Drawn0.refl _ | apply Drawn0.step)⟩
            case rest =>
              clear HC9
              try clear c1
              try clear p2
              try clear c3
              try clear c5
              try clear c5b0
              try clear c6
              try clear c7
              try clear c7b0
              try clear c7b1
              try clear c8
              try clear c8b0
              try clear c8b1
              try clear c10
              try clear c10b0
              try clear c10b1
              try clear c12
              try clear p2
              obtain ⟨kq, x20_8, rfl, HA, HJ8, ⟨mc8, rfl⟩⟩ := hcut
              cases kq with
              | zero => exact absurd HA.out (by simp [brk_Break.j1])
              | succ kj8 =>
                have H := HA.out
                clear HA
                simp only [brk_Break.j1] at H
                by_cases c14 : x20_8 = true
                · subst c14
                  have H1 : (some (wrap64 ((wrap64 ((wrap64 (0 + 1)) + 1)) + 1))) = some r := by rw [if_pos rfl] at H; exact H
                  clear H
                  have H := H1
                  clear H1
                  obtain rfl := Option.some.inj H
                  go_wp2
                  go_ret
                  exact ⟨by first | rfl | (simp; done) | (simp [*]; done) | (simp [wrap64]; done), by repeat (first | exact Drawn0.refl _ | apply Drawn0.step)⟩
                · replace c14 := Bool.eq_false_iff.mpr c14
                  subst c14
                  have H1 : (if a0 = 11 then ((strings_HasPrefix.f (a1.extract (a2 : Int).toNat a1.size) (⟨#[194, 133]⟩ : ByteArray)).bind fun t104 => (brk_Break.j2 kj8 0 (a1.extract (a2 : Int).toNat a1.size) t104)) else (brk_Break.j2 kj8 0 (a1.extract (a2 : Int).toNat a1.size) false)) = some r := by rw [if_neg (show ¬ (false = true) by decide)] at H; exact H
                  clear H
                  have H := H1
                  clear H1
                  have HC15 := Aside0.mk H
                  clear H
                  go_upto_region 6 with (fail)
                  go_cut [31] (fun v31 wc => ∃ (kq : Nat) (x31_14 : Bool), v31 = .bool x31_14 ∧ Aside0 (brk_Break.j2 kq 0 (a1.extract (a2 : Int).toNat a1.size) x31_14 = some r) ∧ Aside0 (kq ≤ kj8) ∧ Drawn0 w wc)
                  case first =>
                    have H := HC15.out
                    clear HC15
                    by_cases c16 : a0 = 11
                    · rw [if_pos c16] at H
                      have c16b0 : (a0 == 11) = true := beq_iff_eq.mpr c16
                      have c16b1 : (a0 != 11) = false := bne_eq_false_iff_eq.mpr c16
                      clear c16
                      (first | rw [c16b0] | (simp only [i64_w, i32_w]; rw [c16b0]) | skip)
                      replace H := Option.bind_eq_some_iff.mp H
                      obtain ⟨t104, A170, H⟩ := H
                      replace H : (brk_Break.j2 kj8 0 (a1.extract (a2 : Int).toNat a1.size) t104) = some r := H
                      have A17 := Aside0.mk A170
                      clear A170
                      have H' := Aside0.mk H
                      clear H
                      go_wp2_with (first | (go_at_call 28; (try (rename_i hK_; simp only [List.append] at hK_)); (with_reducible refine (strings_HasPrefix.calls (a1.extract (a2 : Int).toNat a1.size) (⟨#[194, 133]⟩ : ByteArray) t104 _ A17.out).mono ?_); rintro e w' ⟨rfl, ⟨nd, rfl⟩⟩))
                      go_meet
                      case rel => exact ⟨_, (t104), (by first | rfl | (simp; done) | (simp [*]; done) | (simp [wrap64]; done)), H', ⟨by have := HJ3.out; have := HJ8.out; first | omega | exact Nat.le_refl _⟩, by repeat (first | exact Drawn0.refl _ | apply Drawn0.step)⟩
                    · rw [if_neg c16] at H
                      have c16b0 : (a0 == 11) = false := beq_eq_false_iff_ne.mpr c16
                      have c16b1 : (a0 != 11) = true := bne_iff_ne.mpr c16
                      (first | rw [c16b0] | (simp only [i64_w, i32_w]; rw [c16b0]) | skip)
                      have H' := Aside0.mk H
                      clear H
                      go_wp2
                      go_meet
                      case rel => exact ⟨_, (false), (by first | rfl | (simp; done) | (simp [*]; done) | (simp [wrap64]; done)), H', ⟨by have := HJ3.out; have := HJ8.out; first | omega | exact Nat.le_refl _⟩, by repeat (first | exact Drawn0.refl _ | apply Drawn0.step)⟩
                  case rest =>
                    clear HC15
                    try clear c1
                    try clear p2
                    try clear c3
                    try clear c5
                    try clear c5b0
                    try clear c6
                    try clear p6
                    try clear c7
                    try clear c7b0
                    try clear c7b1
                    try clear c8
                    try clear c8b0
                    try clear c8b1
                    try clear c10
                    try clear c10b0
                    try clear c10b1
                    try clear c12
                    try clear c14
                    try clear c16
                    try clear c16b0
                    try clear c16b1
                    try clear p2
                    obtain ⟨kq, x31_14, rfl, HA, HJ14, ⟨mc14, rfl⟩⟩ := hcut
                    cases kq with
                    | zero => exact absurd HA.out (by simp [brk_Break.j2])
                    | succ kj14 =>
                      have H := HA.out
                      clear HA
                      simp only [brk_Break.j2] at H
                      have HC18 := Aside0.mk H
                      clear H
                      go_upto_if 31 with (fail)
                      go_cut [31] (fun v31 wc => ∃ (kq : Nat) (x31_17 : Bool), v31 = .bool x31_17 ∧ Aside0 (brk_Break.j3 kq 0 (a1.extract (a2 : Int).toNat a1.size) x31_17 = some r) ∧ Aside0 (kq ≤ kj14) ∧ Drawn0 w wc)
                      case first =>
                        have H := HC18.out
                        clear HC18
                        by_cases c19 : x31_14 = true
                        · subst c19
                          have H1 : (brk_Break.j3 kj14 0 (a1.extract (a2 : Int).toNat a1.size) true) = some r := by rw [if_pos rfl] at H; exact H
                          clear H
                          have H := H1
                          clear H1
                          have H' := Aside0.mk H
                          clear H
                          go_wp2
                          go_meet
                          case rel => exact ⟨_, (true), (by first | rfl | (simp; done) | (simp [*]; done) | (simp [wrap64]; done)), H', ⟨by have := HJ3.out; have := HJ8.out; have := HJ14.out; first | omega | exact Nat.le_refl _⟩, by repeat (first | exact Drawn0.refl _ | apply Drawn0.step)⟩
                        · replace c19 := Bool.eq_false_iff.mpr c19
                          subst c19
                          have H1 : ((strings_HasPrefix.f (a1.extract (a2 : Int).toNat a1.size) (⟨#[13, 10]⟩ : ByteArray)).bind fun t105 => (brk_Break.j3 kj14 0 (a1.extract (a2 : Int).toNat a1.size) t105)) = some r := by rw [if_neg (show ¬ (false = true) by decide)] at H; exact H
                          clear H
                          have H := H1
                          clear H1
                          replace H := Option.bind_eq_some_iff.mp H
                          obtain ⟨t105, A200, H⟩ := H
                          replace H : (brk_Break.j3 kj14 0 (a1.extract (a2 : Int).toNat a1.size) t105) = some r := H
                          have A20 := Aside0.mk A200
                          clear A200
                          have H' := Aside0.mk H
                          clear H
                          go_wp2_with (first | ((with_reducible refine gate_callee (f := 28) rfl ?_); refine goesL_ (some 39) rfl rfl Tryd.func28 (by kernel_rfl) rfl #[.string (a1.extract (a2 : Int).toNat a1.size), .string (⟨#[13, 10]⟩ : ByteArray)] rfl (by (try simp only [List.map_toArray, List.map_cons, List.map_nil]); first | done | rfl | (simp only [List.length_drop, List.length_take]; rfl)) ?_; (with_reducible refine (strings_HasPrefix.calls (a1.extract (a2 : Int).toNat a1.size) (⟨#[13, 10]⟩ : ByteArray) t105 _ A20.out).mono ?_); rintro e w' ⟨rfl, ⟨nd, rfl⟩⟩; refine ⟨_, rfl, ?_⟩))
                          go_meet
                          case rel => exact ⟨_, (t105), (by first | rfl | (simp; done) | (simp [*]; done) | (simp [wrap64]; done)), H', ⟨by have := HJ3.out; have := HJ8.out; have := HJ14.out; first | omega | exact Nat.le_refl _⟩, by repeat (first | exact Drawn0.refl _ | apply Drawn0.step)⟩
                      case rest =>
                        clear HC18
                        try clear c1
                        try clear c2
                        try clear p2
                        try clear c3
                        try clear c5
                        try clear c5b0
                        try clear c6
                        try clear p6
                        try clear c7
                        try clear c7b0
                        try clear c7b1
                        try clear c8
                        try clear c8b0
                        try clear c8b1
                        try clear c10
                        try clear c10b0
                        try clear c10b1
                        try clear c12
                        try clear c14
                        try clear c16
                        try clear c16b0
                        try clear c16b1
                        try clear c19
                        try clear p2
                        try clear p6
                        obtain ⟨kq, x31_17, rfl, HA, HJ17, ⟨mc17, rfl⟩⟩ := hcut
                        cases kq with
                        | zero => exact absurd HA.out (by simp [brk_Break.j3])
                        | succ kj17 =>
                          have H := HA.out
                          clear HA
                          simp only [brk_Break.j3] at H
                          by_cases c21 : x31_17 = true
                          · subst c21
                            have H1 : (some (wrap64 ((wrap64 (0 + 1)) + 1))) = some r := by rw [if_pos rfl] at H; exact H
                            clear H
                            have H := H1
                            clear H1
                            obtain rfl := Option.some.inj H
                            go_wp2
                            go_ret
                            exact ⟨by first | rfl | (simp; done) | (simp [*]; done) | (simp [wrap64]; done), by repeat (first | exact Drawn0.refl _ | apply Drawn0.step)⟩
                          · replace c21 := Bool.eq_false_iff.mpr c21
                            subst c21
                            have H1 : (if 0 < ((a1.extract (a2 : Int).toNat a1.size).size : Int) then (if (bt (a1.extract (a2 : Int).toNat a1.size) 0) = 13 then (some (wrap64 (0 + 1))) else (if (bt (a1.extract (a2 : Int).toNat a1.size) 0) = 10 then (some (wrap64 (0 + 1))) else (some 0))) else (none)) = some r := by rw [if_neg (show ¬ (false = true) by decide)] at H; exact H
                            clear H
                            have H := H1
                            clear H1
                            by_cases c22 : 0 < ((a1.extract (a2 : Int).toNat a1.size).size : Int)
                            · rw [if_pos c22] at H
                              have c22b0 : decide (0 < ((a1.extract (a2 : Int).toNat a1.size).size : Int)) = true := decide_eq_true c22
                              have c22b1 : decide (0 < (a1.extract (a2 : Int).toNat a1.size).size) = true := decide_eq_true (by omega)
                              (try (have c22b2 : decide (0 < a1.size - (a2 : Int).toNat) = true := decide_eq_true (by have h_ := c22; simp only [ByteArray.size_extract, Nat.min_self] at h_; omega)))
                              (try (have c22b3 : decide (0 < ((a1.size - (a2 : Int).toNat : Nat) : Int)) = true := decide_eq_true (by have h_ := c22; simp only [ByteArray.size_extract, Nat.min_self] at h_; omega)))
                              clear c22
                              by_cases c24 : (bt (a1.extract (a2 : Int).toNat a1.size) 0) = 13
                              · rw [if_pos c24] at H
                                have c24b0 : ((bt (a1.extract (a2 : Int).toNat a1.size) 0) == 13) = true := beq_iff_eq.mpr c24
                                have c24b1 : ((bt (a1.extract (a2 : Int).toNat a1.size) 0) != 13) = false := bne_eq_false_iff_eq.mpr c24
                                clear c24
                                obtain rfl := Option.some.inj H
                                have p23 : 0 ≤ (0 : Int) := (by omega)
                                have q23 : 0 < (a1.extract (a2 : Int).toNat a1.size).size := (by have : (0 : Int) < ((a1.extract (a2 : Int).toNat a1.size).size : Int) := of_decide_eq_true (by first | (with_reducible assumption) | assumption); omega)
                                have hx23 : ∀ h : 0 < (a1.extract (a2 : Int).toNat a1.size).size, (((a1.extract (a2 : Int).toNat a1.size)[0]'h).toNat : Int) = bt (a1.extract (a2 : Int).toNat a1.size) 0 := bt_at (a1.extract (a2 : Int).toNat a1.size) 0
                                clear p23
                                have qi23 : (0 < ((a1.extract (a2 : Int).toNat a1.size).size : Int)) = True := eq_true (of_decide_eq_true (by first | (with_reducible assumption) | assumption))
                                replace q23 := eq_true q23
                                (try have qe23 : (0 < a1.size - (a2 : Int).toNat) = True := eq_true (by have h_ := of_eq_true qi23; simp only [ByteArray.size_extract, Nat.min_self] at h_; omega))
                                go_wp2
                                go_ret
                                exact ⟨by first | rfl | (simp; done) | (simp [*]; done) | (simp [wrap64]; done), by repeat (first | exact Drawn0.refl _ | apply Drawn0.step)⟩
                              · rw [if_neg c24] at H
                                have c24b0 : ((bt (a1.extract (a2 : Int).toNat a1.size) 0) == 13) = false := beq_eq_false_iff_ne.mpr c24
                                have c24b1 : ((bt (a1.extract (a2 : Int).toNat a1.size) 0) != 13) = true := bne_iff_ne.mpr c24
                                by_cases c26 : (bt (a1.extract (a2 : Int).toNat a1.size) 0) = 10
                                · rw [if_pos c26] at H
                                  have c26b0 : ((bt (a1.extract (a2 : Int).toNat a1.size) 0) == 10) = true := beq_iff_eq.mpr c26
                                  have c26b1 : ((bt (a1.extract (a2 : Int).toNat a1.size) 0) != 10) = false := bne_eq_false_iff_eq.mpr c26
                                  clear c26
                                  obtain rfl := Option.some.inj H
                                  have p23 : 0 ≤ (0 : Int) := (by omega)
                                  have q23 : 0 < (a1.extract (a2 : Int).toNat a1.size).size := (by have : (0 : Int) < ((a1.extract (a2 : Int).toNat a1.size).size : Int) := of_decide_eq_true (by first | (with_reducible assumption) | assumption); omega)
                                  have hx23 : ∀ h : 0 < (a1.extract (a2 : Int).toNat a1.size).size, (((a1.extract (a2 : Int).toNat a1.size)[0]'h).toNat : Int) = bt (a1.extract (a2 : Int).toNat a1.size) 0 := bt_at (a1.extract (a2 : Int).toNat a1.size) 0
                                  clear p23
                                  have qi23 : (0 < ((a1.extract (a2 : Int).toNat a1.size).size : Int)) = True := eq_true (of_decide_eq_true (by first | (with_reducible assumption) | assumption))
                                  replace q23 := eq_true q23
                                  (try have qe23 : (0 < a1.size - (a2 : Int).toNat) = True := eq_true (by have h_ := of_eq_true qi23; simp only [ByteArray.size_extract, Nat.min_self] at h_; omega))
                                  have p25 : 0 ≤ (0 : Int) := (by omega)
                                  have q25 : 0 < (a1.extract (a2 : Int).toNat a1.size).size := (by have : (0 : Int) < ((a1.extract (a2 : Int).toNat a1.size).size : Int) := of_decide_eq_true (by first | (with_reducible assumption) | assumption); omega)
                                  have hx25 : ∀ h : 0 < (a1.extract (a2 : Int).toNat a1.size).size, (((a1.extract (a2 : Int).toNat a1.size)[0]'h).toNat : Int) = bt (a1.extract (a2 : Int).toNat a1.size) 0 := bt_at (a1.extract (a2 : Int).toNat a1.size) 0
                                  clear p25
                                  have qi25 : (0 < ((a1.extract (a2 : Int).toNat a1.size).size : Int)) = True := eq_true (of_decide_eq_true (by first | (with_reducible assumption) | assumption))
                                  replace q25 := eq_true q25
                                  (try have qe25 : (0 < a1.size - (a2 : Int).toNat) = True := eq_true (by have h_ := of_eq_true qi25; simp only [ByteArray.size_extract, Nat.min_self] at h_; omega))
                                  go_wp2
                                  go_ret
                                  exact ⟨by first | rfl | (simp; done) | (simp [*]; done) | (simp [wrap64]; done), by repeat (first | exact Drawn0.refl _ | apply Drawn0.step)⟩
                                · rw [if_neg c26] at H
                                  have c26b0 : ((bt (a1.extract (a2 : Int).toNat a1.size) 0) == 10) = false := beq_eq_false_iff_ne.mpr c26
                                  have c26b1 : ((bt (a1.extract (a2 : Int).toNat a1.size) 0) != 10) = true := bne_iff_ne.mpr c26
                                  obtain rfl := Option.some.inj H
                                  have p23 : 0 ≤ (0 : Int) := (by omega)
                                  have q23 : 0 < (a1.extract (a2 : Int).toNat a1.size).size := (by have : (0 : Int) < ((a1.extract (a2 : Int).toNat a1.size).size : Int) := of_decide_eq_true (by first | (with_reducible assumption) | assumption); omega)
                                  have hx23 : ∀ h : 0 < (a1.extract (a2 : Int).toNat a1.size).size, (((a1.extract (a2 : Int).toNat a1.size)[0]'h).toNat : Int) = bt (a1.extract (a2 : Int).toNat a1.size) 0 := bt_at (a1.extract (a2 : Int).toNat a1.size) 0
                                  clear p23
                                  have qi23 : (0 < ((a1.extract (a2 : Int).toNat a1.size).size : Int)) = True := eq_true (of_decide_eq_true (by first | (with_reducible assumption) | assumption))
                                  replace q23 := eq_true q23
                                  (try have qe23 : (0 < a1.size - (a2 : Int).toNat) = True := eq_true (by have h_ := of_eq_true qi23; simp only [ByteArray.size_extract, Nat.min_self] at h_; omega))
                                  have p25 : 0 ≤ (0 : Int) := (by omega)
                                  have q25 : 0 < (a1.extract (a2 : Int).toNat a1.size).size := (by have : (0 : Int) < ((a1.extract (a2 : Int).toNat a1.size).size : Int) := of_decide_eq_true (by first | (with_reducible assumption) | assumption); omega)
                                  have hx25 : ∀ h : 0 < (a1.extract (a2 : Int).toNat a1.size).size, (((a1.extract (a2 : Int).toNat a1.size)[0]'h).toNat : Int) = bt (a1.extract (a2 : Int).toNat a1.size) 0 := bt_at (a1.extract (a2 : Int).toNat a1.size) 0
                                  clear p25
                                  have qi25 : (0 < ((a1.extract (a2 : Int).toNat a1.size).size : Int)) = True := eq_true (of_decide_eq_true (by first | (with_reducible assumption) | assumption))
                                  replace q25 := eq_true q25
                                  (try have qe25 : (0 < a1.size - (a2 : Int).toNat) = True := eq_true (by have h_ := of_eq_true qi25; simp only [ByteArray.size_extract, Nat.min_self] at h_; omega))
                                  go_wp2
                                  go_ret
                                  exact ⟨by first | rfl | (simp; done) | (simp [*]; done) | (simp [wrap64]; done), by repeat (first | exact Drawn0.refl _ | apply Drawn0.step)⟩
                            · rw [if_neg c22] at H
                              exact absurd H (by simp)
          · rw [if_neg c8] at H
            exact absurd H (by simp)
        · rw [if_neg c7] at H
          exact absurd H (by simp)

/-! ### brk_Lines: function 11 -/
def brk_Lines.l0 : Nat → Int → ByteArray → List (S27) → Int → Int → Option ((List (S27)))
  | 0, _, _, _, _, _ => none
  | k + 1, x0, x1, x5, x6, x7 => if x7 < (x1.size : Int) then ((brk_Break.f k x0 x1 x7).bind fun t106 => (if t106 = 0 then (brk_Lines.l0 k x0 x1 x5 x6 (wrap64 (x7 + 1))) else (if x5.length < 5864062014805 then (brk_Lines.l0 k x0 x1 (x5 ++ [(⟨x6, x7, wrap64 (x7 + t106)⟩ : S27)]) (wrap64 (x7 + t106)) (wrap64 (x7 + t106))) else (none)))) else (if x6 < (x1.size : Int) then (if x5.length < 5864062014805 then (some (x5 ++ [(⟨x6, (x1.size : Int), (x1.size : Int)⟩ : S27)])) else (none)) else (some x5))
def brk_Lines.f (k : Nat) (a0 : Int) (a1 : ByteArray) : Option ((List (S27))) := brk_Lines.l0 k a0 a1 ([] : List (S27)) 0 0
theorem brk_Lines.mono_l : ∀ k, (∀ y0 y1 y2 y3 y4, LeO (brk_Lines.l0 k y0 y1 y2 y3 y4) (brk_Lines.l0 (k + 1) y0 y1 y2 y3 y4))
  | 0 => fun _ _ _ _ _ r h => by simp [brk_Lines.l0] at h
  | k + 1 => by
    have ih0 := brk_Lines.mono_l k
    · intro y0 y1 y2 y3 y4
      unfold brk_Lines.l0
      repeat' first
      | (with_reducible exact ih0 _ _ _ _ _)
      | (with_reducible exact brk_Break.mono _ _ _ _)
      | (with_reducible exact LeO.refl _)
      | (with_reducible exact LeO.none _)
      | (with_reducible refine LeO.ite ?_ ?_)
      | (with_reducible refine LeO.bind ?_ (fun _ => ?_))
      | exact ih0 _ _ _ _ _
      | exact brk_Break.mono _ _ _ _
      | exact LeO.none _
      | refine LeO.ite ?_ ?_
      | refine LeO.bind ?_ (fun _ => ?_)
theorem brk_Lines.mono : ∀ a0 a1 k, LeO (brk_Lines.f k a0 a1) (brk_Lines.f (k + 1) a0 a1) := by
  intro a0 a1 k
  have ih0 := brk_Lines.mono_l k
  unfold brk_Lines.f
  repeat' first
      | (with_reducible exact ih0 _ _ _ _ _)
      | (with_reducible exact brk_Break.mono _ _ _ _)
      | (with_reducible exact LeO.refl _)
      | (with_reducible exact LeO.none _)
      | (with_reducible refine LeO.ite ?_ ?_)
      | (with_reducible refine LeO.bind ?_ (fun _ => ?_))
      | exact ih0 _ _ _ _ _
      | exact brk_Break.mono _ _ _ _
      | exact LeO.none _
      | refine LeO.ite ?_ ?_
      | refine LeO.bind ?_ (fun _ => ?_)
set_option maxHeartbeats 8000000 in
set_option maxRecDepth 100000 in
theorem brk_Lines.calls (k : Nat) (a0 : Int) (a1 : ByteArray) (r : List (S27)) (w : World) (h : brk_Lines.f k a0 a1 = some r) :
    Calls Tryd.prog 11 #[.int .i64 a0, .string a1] w fun e w' => ∃ v0_ : Value, e = .returned (v0_) ∧ Kd.R k27 27 w' w.heap.size (fun _ => True) v0_ r ∧ Below w.heap.size w w' := by
  have hu27 := Tryd.underlying27
  have HB := Aside0.mk (Below.refl w.heap.size w)
  have H : (brk_Lines.l0 k a0 a1 ([] : List (S27)) 0 0) = some r := h
  clear h
  have H' := Aside0.mk H
  clear H
  go_enter Tryd.func11, Tryd.ntmps11
  go_wp2
  go_loopg [5, 6, 7] k (fun kq v5 v6 v7 w' => ∃ (x5_1 : List (S27)) (x6_1 : Int) (x7_1 : Int), v6 = .int .i64 x6_1 ∧ v7 = .int .i64 x7_1 ∧ Aside0 (brk_Lines.l0 kq a0 a1 x5_1 x6_1 x7_1 = some r) ∧ Aside0 (kq ≤ k) ∧ Aside0 (Kd.R k27 27 w' w.heap.size (fun _ => True) v5 x5_1) ∧ Aside0 (Below w.heap.size w w'))
  case atStart => exact ⟨(([] : List (S27))), (0), (0), (by first | rfl | (simp; done) | (simp [*]; done) | (simp [wrap64]; done)), (by first | rfl | (simp; done) | (simp [*]; done) | (simp [wrap64]; done)), H', ⟨Nat.le_refl _⟩, ⟨by first | exact Kd.R_nil _ _ _ _ _ | exact Kd.N_nil _ _ _ _ _ | exact Kd.V_nil _ _ _ _ _ | exact Kd.Q_nil _ _ _ _ _ | exact Kd.S_nil _ _ _ _ _⟩, ⟨by repeat (first | (with_reducible first | exact HB.out | apply below_alloc | apply pw_below_drewN | apply below_drew1) | exact HB.out)⟩⟩
  case round =>
    clear H'
    try clear c1
    try clear p2
    obtain ⟨x5_1, x6_1, x7_1, rfl, rfl, HA, HK1, HO_5, HB⟩ := hrel
    cases gk with
    | zero => exact absurd HA.out (by simp [brk_Lines.l0])
    | succ k1 =>
      have H := HA.out
      clear HA
      simp only [brk_Lines.l0] at H
      by_cases c3 : x7_1 < (a1.size : Int)
      · rw [if_pos c3] at H
        have c3b0 : decide (x7_1 < (a1.size : Int)) = true := decide_eq_true c3
        clear c3
        replace H := Option.bind_eq_some_iff.mp H
        obtain ⟨t106, A40, H⟩ := H
        replace H : (if t106 = 0 then (brk_Lines.l0 k1 a0 a1 x5_1 x6_1 (wrap64 (x7_1 + 1))) else (if x5_1.length < 5864062014805 then (brk_Lines.l0 k1 a0 a1 (x5_1 ++ [(⟨x6_1, x7_1, wrap64 (x7_1 + t106)⟩ : S27)]) (wrap64 (x7_1 + t106)) (wrap64 (x7_1 + t106))) else (none))) = some r := H
        have A4 := Aside0.mk A40
        clear A40
        by_cases c5 : t106 = 0
        · rw [if_pos c5] at H
          have c5b0 : (t106 == 0) = true := beq_iff_eq.mpr c5
          have c5b1 : (t106 != 0) = false := bne_eq_false_iff_eq.mpr c5
          clear c5
          have H' := Aside0.mk H
          clear H
          go_wp2_with (first | ((with_reducible refine gate_callee (f := 12) rfl ?_); refine goesL_ (some 16) rfl rfl Tryd.func12 (by kernel_rfl) rfl #[.int .i64 a0, .string a1, .int .i64 x7_1] rfl (by (try simp only [List.map_toArray, List.map_cons, List.map_nil]); first | done | rfl | (simp only [List.length_drop, List.length_take]; rfl)) ?_; (with_reducible refine (brk_Break.calls k1 a0 a1 x7_1 t106 _ A4.out).mono ?_); rintro e w' ⟨rfl, ⟨nd, rfl⟩⟩; refine ⟨_, rfl, ?_⟩))
          go_roundg k1
          case measure => have := HK1.out; omega
          case rel => exact ⟨(x5_1), (x6_1), (wrap64 (x7_1 + 1)), (by first | rfl | (simp; done) | (simp [*]; done) | (simp [wrap64]; done)), (by first | rfl | (simp; done) | (simp [*]; done) | (simp [wrap64]; done)), H', ⟨by have := HK1.out; omega⟩, ⟨by (with_reducible repeat (first | apply Kd.R_alloc | apply Kd.R_drewN | apply Kd.R_drew)); exact HO_5.out⟩, ⟨by repeat (first | (with_reducible first | exact HB.out | apply below_alloc | apply pw_below_drewN | apply below_drew1) | exact HB.out)⟩⟩
        · rw [if_neg c5] at H
          have c5b0 : (t106 == 0) = false := beq_eq_false_iff_ne.mpr c5
          have c5b1 : (t106 != 0) = true := bne_iff_ne.mpr c5
          by_cases c6 : x5_1.length < 5864062014805
          · rw [if_pos c6] at H
            have LMc6 := Aside0.mk c6
            clear c6
            obtain ⟨y107, hy107⟩ : ∃ y_ : List (S27), y_ = (x5_1 ++ [(⟨x6_1, x7_1, wrap64 (x7_1 + t106)⟩ : S27)]) := ⟨_, rfl⟩
            replace H : (brk_Lines.l0 k1 a0 a1 y107 (wrap64 (x7_1 + t106)) (wrap64 (x7_1 + t106))) = some r := by first | (rw [hy107]; with_reducible exact H) | (have H2_ := (Option.bind_some _ _).symm.trans H; rw [hy107]; with_reducible exact H2_) | (have H2_ := (Option.bind_some _ _).symm.trans H; with_reducible exact H2_) | with_reducible exact H | (rw [hy107]; exact H) | exact H
            have Ny107 := Aside0.mk hy107
            clear hy107
            have H' := Aside0.mk H
            clear H
            go_wp2_with (first | ((with_reducible refine gate_callee (f := 12) rfl ?_); refine goesL_ (some 16) rfl rfl Tryd.func12 (by kernel_rfl) rfl #[.int .i64 a0, .string a1, .int .i64 x7_1] rfl (by (try simp only [List.map_toArray, List.map_cons, List.map_nil]); first | done | rfl | (simp only [List.length_drop, List.length_take]; rfl)) ?_; (with_reducible refine (brk_Break.calls k1 a0 a1 x7_1 t106 _ A4.out).mono ?_); rintro e w' ⟨rfl, ⟨nd, rfl⟩⟩; refine ⟨_, rfl, ?_⟩) | ((with_reducible refine gate_builtin (b := .append) (xs := #[.tmp 21, .tmp 28]) rfl ?_); at_builtin; refine Kd.R_append k27 (w0 := w) w.heap.size rfl (.tmp 21) (.tmp 28) 24 27 (.agg #[(.int .i64 0), (.int .i64 0), (.int .i64 0)]) 24 rfl Tryd.underlying24 info27 rfl (by decide) (by omega) u5 x5_1 (⟨x6_1, x7_1, wrap64 (x7_1 + t106)⟩ : S27) [.int .i64 x6_1, .int .i64 x7_1, .int .i64 (wrap64 (x7_1 + t106))] (fun _ => True) (fun _ => False) rfl rfl ?aP (fun _ hk => hk.elim) ?aF ?aO ?aB ?aS ?aL ?_; (case aP => exact k27_mkM _ _ _ (⟨x6_1, x7_1, wrap64 (x7_1 + t106)⟩ : S27)); (case aB => exact (by repeat (first | (with_reducible first | exact HB.out | apply below_alloc | apply pw_below_drewN | apply below_drew1) | exact HB.out))); (case aF => exact (fun _ _ => trivial)); (case aO => exact (by (with_reducible repeat (first | apply Kd.R_alloc | apply Kd.R_drewN | apply Kd.R_drew)); exact HO_5.out)); (case aS => exact (below_size (by repeat (first | (with_reducible first | exact HB.out | apply below_alloc | apply pw_below_drewN | apply below_drew1) | exact HB.out)))); (case aL => have := LMc6.out; omega); intro v108 w7 ho hb hg hat; rw [← Ny107.out] at ho; have n0_ := Aside0.mk (hb); have n1_ := Aside0.mk (ho); clear HB; clear HO_5; have HB := n0_; have HO109 := n1_; clear n0_ n1_; clear ho hb hg hat))
            go_roundg k1
            case measure => have := HK1.out; omega
            case rel => exact ⟨(y107), (wrap64 (x7_1 + t106)), (wrap64 (x7_1 + t106)), (by first | rfl | (simp; done) | (simp [*]; done) | (simp [wrap64]; done)), (by first | rfl | (simp; done) | (simp [*]; done) | (simp [wrap64]; done)), H', ⟨by have := HK1.out; omega⟩, ⟨by (with_reducible repeat (first | apply Kd.R_alloc | apply Kd.R_drewN | apply Kd.R_drew)); exact HO109.out⟩, ⟨by repeat (first | (with_reducible first | exact HB.out | apply below_alloc | apply pw_below_drewN | apply below_drew1) | exact HB.out)⟩⟩
          · rw [if_neg c6] at H
            exact absurd H (by simp)
      · rw [if_neg c3] at H
        have c3b0 : decide (x7_1 < (a1.size : Int)) = false := decide_eq_false c3
        clear c3
        by_cases c8 : x6_1 < (a1.size : Int)
        · rw [if_pos c8] at H
          have c8b0 : decide (x6_1 < (a1.size : Int)) = true := decide_eq_true c8
          clear c8
          by_cases c9 : x5_1.length < 5864062014805
          · rw [if_pos c9] at H
            have LMc9 := Aside0.mk c9
            clear c9
            obtain ⟨y110, hy110⟩ : ∃ y_ : List (S27), y_ = (x5_1 ++ [(⟨x6_1, (a1.size : Int), (a1.size : Int)⟩ : S27)]) := ⟨_, rfl⟩
            replace H : (some y110) = some r := by first | (rw [hy110]; with_reducible exact H) | (have H2_ := (Option.bind_some _ _).symm.trans H; rw [hy110]; with_reducible exact H2_) | (have H2_ := (Option.bind_some _ _).symm.trans H; with_reducible exact H2_) | with_reducible exact H | (rw [hy110]; exact H) | exact H
            have Ny110 := Aside0.mk hy110
            clear hy110
            obtain rfl := Option.some.inj H
            go_wp2_with (first | ((with_reducible refine gate_builtin (b := .append) (xs := #[.tmp 38, .tmp 45]) rfl ?_); at_builtin; refine Kd.R_append k27 (w0 := w) w.heap.size rfl (.tmp 38) (.tmp 45) 24 27 (.agg #[(.int .i64 0), (.int .i64 0), (.int .i64 0)]) 24 rfl Tryd.underlying24 info27 rfl (by decide) (by omega) u5 x5_1 (⟨x6_1, (a1.size : Int), (a1.size : Int)⟩ : S27) [.int .i64 x6_1, .int .i64 (a1.size : Int), .int .i64 (a1.size : Int)] (fun _ => True) (fun _ => False) rfl rfl ?aP (fun _ hk => hk.elim) ?aF ?aO ?aB ?aS ?aL ?_; (case aP => exact k27_mkM _ _ _ (⟨x6_1, (a1.size : Int), (a1.size : Int)⟩ : S27)); (case aB => exact (by repeat (first | (with_reducible first | exact HB.out | apply below_alloc | apply pw_below_drewN | apply below_drew1) | exact HB.out))); (case aF => exact (fun _ _ => trivial)); (case aO => exact (by (with_reducible repeat (first | apply Kd.R_alloc | apply Kd.R_drewN | apply Kd.R_drew)); exact HO_5.out)); (case aS => exact (below_size (by repeat (first | (with_reducible first | exact HB.out | apply below_alloc | apply pw_below_drewN | apply below_drew1) | exact HB.out)))); (case aL => have := LMc9.out; omega); intro v111 w10 ho hb hg hat; rw [← Ny110.out] at ho; have n0_ := Aside0.mk (hb); have n1_ := Aside0.mk (ho); clear HB; clear HO_5; have HB := n0_; have HO112 := n1_; clear n0_ n1_; clear ho hb hg hat))
            go_ret
            exact ⟨_, by first | rfl | (simp [errW_none, errW_some] <;> rfl) | (simp [*, errW_none, errW_some] <;> rfl), by (with_reducible repeat (first | apply Kd.R_alloc | apply Kd.R_drewN | apply Kd.R_drew)); exact HO112.out, by repeat (first | (with_reducible first | exact HB.out | apply below_alloc | apply pw_below_drewN | apply below_drew1) | exact HB.out)⟩
          · rw [if_neg c9] at H
            exact absurd H (by simp)
        · rw [if_neg c8] at H
          have c8b0 : decide (x6_1 < (a1.size : Int)) = false := decide_eq_false c8
          clear c8
          obtain rfl := Option.some.inj H
          go_wp2
          go_ret
          exact ⟨_, by first | rfl | (simp [errW_none, errW_some] <;> rfl) | (simp [*, errW_none, errW_some] <;> rfl), by (with_reducible repeat (first | apply Kd.R_alloc | apply Kd.R_drewN | apply Kd.R_drew)); exact HO_5.out, by repeat (first | (with_reducible first | exact HB.out | apply below_alloc | apply pw_below_drewN | apply below_drew1) | exact HB.out)⟩

/-! ### utf8_DecodeRuneInString: function 30 -/

def utf8_DecodeRuneInString.f (a0 : ByteArray) : Option (Int × Int) := some ((Lib.decodeGo a0).1, ((Lib.decodeGo a0).2 : Int))
theorem utf8_DecodeRuneInString.calls (a0 : ByteArray) (r1 : Int) (r2 : Int) (w : World) (hG : Lib.Utf8Tabs 0 1 w) (h : utf8_DecodeRuneInString.f a0 = some (r1, r2)) :
    Calls Tryd.prog 30 #[.string a0] w fun e w' => e = .returned (.tuple #[.int .i32 r1, .int .i64 r2]) ∧ Below w.heap.size w w' := by
  refine (Tryd.utf8_DecodeRuneInString a0 w hG).mono ?_
  rintro e w' ⟨rfl, hb⟩
  unfold utf8_DecodeRuneInString.f at h
  simp only [Option.some.injEq, Prod.mk.injEq] at h
  obtain ⟨h1, h2⟩ := h
  exact ⟨by rw [h1, h2], hb⟩

end Go.Proofs.YtkphlddgfmgogaaDoor.PJ
