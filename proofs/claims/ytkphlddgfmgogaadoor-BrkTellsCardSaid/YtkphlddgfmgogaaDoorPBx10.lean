/- Written by this session's own program (xprint, made over the kit's print): Lean functions with the same answers as the Go functions, and the proofs of that. Not trusted: Lean checks it. -/
import Derived.Test.YtkphlddgfmgogaaDoorPBx0
import Derived.Test.YtkphlddgfmgogaaDoorPBx5
namespace Go.Proofs.YtkphlddgfmgogaaDoor.PB
open Go.RowKit Go.Proofs.YtkphlddgfmgogaaDoorW.PrintWords Go.Proofs.YtkphlddgfmgogaaDoorW.PrintLast Go.Proofs.YtkphlddgfmgogaaDoorW.PrintMore
attribute [local go_sem] max2_int min2_int max_two min_two max_three min_three max_four min_four   -- for this text's walks alone
set_option linter.unusedVariables false
set_option linter.unusedSimpArgs false

/-! ### targumref1_May: function 18 -/
def targumref1_May.j0 : Nat → Int → Int → Bool → Option (Int)
  | 0, _, _, _ => none
  | k + 1, x5, x6, x13 => if x13 = true then (some x6) else (if x5 ≥ 160 then (if x5 ≤ 65533 then (if x5 = 65279 then (if x5 ≥ 65536 then (some x6) else (some 0)) else (some x6)) else (if x5 ≥ 65536 then (some x6) else (some 0))) else (if x5 ≥ 65536 then (some x6) else (some 0)))
def targumref1_May.f (k : Nat) (a0 : ByteArray) (a1 : Int) : Option (Int) := (targumref1_Next.f k a0 a1).bind fun bt235 => (if bt235.1 = 9 then (targumref1_May.j0 k bt235.1 bt235.2 true) else (if bt235.1 = 10 then (targumref1_May.j0 k bt235.1 bt235.2 true) else (if bt235.1 = 13 then (targumref1_May.j0 k bt235.1 bt235.2 true) else (if bt235.1 ≥ 32 then (if bt235.1 ≤ 126 then (targumref1_May.j0 k bt235.1 bt235.2 true) else (targumref1_May.j0 k bt235.1 bt235.2 (bt235.1 == 133))) else (targumref1_May.j0 k bt235.1 bt235.2 (bt235.1 == 133))))))
theorem targumref1_May.mono_l : ∀ k, (∀ y0 y1 y2, LeO (targumref1_May.j0 k y0 y1 y2) (targumref1_May.j0 (k + 1) y0 y1 y2))
  | 0 => fun _ _ _ r h => by simp [targumref1_May.j0] at h
  | k + 1 => by
    have ih0 := targumref1_May.mono_l k
    · intro y0 y1 y2
      unfold targumref1_May.j0
      repeat' first
      | (with_reducible exact ih0 _ _ _)
      | (with_reducible exact targumref1_Next.mono _ _ _)
      | (with_reducible exact LeO.refl _)
      | (with_reducible exact LeO.none _)
      | (with_reducible refine LeO.ite ?_ ?_)
      | (with_reducible refine LeO.bind ?_ (fun _ => ?_))
      | exact ih0 _ _ _
      | exact targumref1_Next.mono _ _ _
      | exact LeO.none _
      | refine LeO.ite ?_ ?_
      | refine LeO.bind ?_ (fun _ => ?_)
theorem targumref1_May.mono : ∀ a0 a1 k, LeO (targumref1_May.f k a0 a1) (targumref1_May.f (k + 1) a0 a1) := by
  intro a0 a1 k
  have ih0 := targumref1_May.mono_l k
  unfold targumref1_May.f
  repeat' first
      | (with_reducible exact ih0 _ _ _)
      | (with_reducible exact targumref1_Next.mono _ _ _)
      | (with_reducible exact LeO.refl _)
      | (with_reducible exact LeO.none _)
      | (with_reducible refine LeO.ite ?_ ?_)
      | (with_reducible refine LeO.bind ?_ (fun _ => ?_))
      | exact ih0 _ _ _
      | exact targumref1_Next.mono _ _ _
      | exact LeO.none _
      | refine LeO.ite ?_ ?_
      | refine LeO.bind ?_ (fun _ => ?_)
set_option maxHeartbeats 8000000 in
set_option maxRecDepth 100000 in
theorem targumref1_May.calls (k : Nat) (a0 : ByteArray) (a1 : Int) (r : Int) (w : World) (h : targumref1_May.f k a0 a1 = some r) :
    Calls Tryd.prog 18 #[.string a0, .int .i64 a1] w fun e w' => e = .returned (.int .i64 r) ∧ Drawn0 w w' := by
  have H : ((targumref1_Next.f k a0 a1).bind fun bt235 => (if bt235.1 = 9 then (targumref1_May.j0 k bt235.1 bt235.2 true) else (if bt235.1 = 10 then (targumref1_May.j0 k bt235.1 bt235.2 true) else (if bt235.1 = 13 then (targumref1_May.j0 k bt235.1 bt235.2 true) else (if bt235.1 ≥ 32 then (if bt235.1 ≤ 126 then (targumref1_May.j0 k bt235.1 bt235.2 true) else (targumref1_May.j0 k bt235.1 bt235.2 (bt235.1 == 133))) else (targumref1_May.j0 k bt235.1 bt235.2 (bt235.1 == 133))))))) = some r := h
  clear h
  replace H := Option.bind_eq_some_iff.mp H
  obtain ⟨⟨t235, t236⟩, A30, H⟩ := H
  replace H : (if t235 = 9 then (targumref1_May.j0 k t235 t236 true) else (if t235 = 10 then (targumref1_May.j0 k t235 t236 true) else (if t235 = 13 then (targumref1_May.j0 k t235 t236 true) else (if t235 ≥ 32 then (if t235 ≤ 126 then (targumref1_May.j0 k t235 t236 true) else (targumref1_May.j0 k t235 t236 (t235 == 133))) else (targumref1_May.j0 k t235 t236 (t235 == 133)))))) = some r := H
  have A3 := Aside0.mk A30
  clear A30
  have HC4 := Aside0.mk H
  clear H
  go_enter Tryd.func18, Tryd.ntmps18
  go_upto_region 2 with (first | ((with_reducible refine gate_callee (f := 29) rfl ?_); refine goesL_ (some 10) rfl rfl Tryd.func29 (by kernel_rfl) rfl #[.string a0, .int .i64 a1] rfl (by (try simp only [List.map_toArray, List.map_cons, List.map_nil]); first | done | rfl | (simp only [List.length_drop, List.length_take]; rfl)) ?_; (with_reducible refine (targumref1_Next.calls k a0 a1 t235 t236 _ A3.out).mono ?_); rintro e w' ⟨rfl, ⟨nd, rfl⟩⟩; refine ⟨_, rfl, ?_⟩))
  (try simp only [Act.put, List.setIfInBounds_toArray, List.set_cons_zero, List.set_cons_succ])
  go_cut [13] (fun v13 wc => ∃ (kq : Nat) (x13_3 : Bool), v13 = .bool x13_3 ∧ Aside0 (targumref1_May.j0 kq t235 t236 x13_3 = some r) ∧ Aside0 (kq ≤ k) ∧ Drawn0 w wc)
  case first =>
    have H := HC4.out
    clear HC4
    by_cases c5 : t235 = 9
    · rw [if_pos c5] at H
      have c5b0 : (t235 == 9) = true := beq_iff_eq.mpr c5
      have c5b1 : (t235 != 9) = false := bne_eq_false_iff_eq.mpr c5
      clear c5
      (first | rw [c5b0] | (simp only [i64_w, i32_w]; rw [c5b0]) | skip)
      have H' := Aside0.mk H
      clear H
      go_wp2
      go_meet
      case rel => exact ⟨_, (true), (by first | rfl | (simp; done) | (simp [*]; done) | (simp [wrap64]; done)), H', ⟨by first | omega | exact Nat.le_refl _⟩, by repeat (first | exact Drawn0.refl _ | apply Drawn0.step)⟩
    · rw [if_neg c5] at H
      have c5b0 : (t235 == 9) = false := beq_eq_false_iff_ne.mpr c5
      have c5b1 : (t235 != 9) = true := bne_iff_ne.mpr c5
      (first | rw [c5b0] | (simp only [i64_w, i32_w]; rw [c5b0]) | skip)
      by_cases c6 : t235 = 10
      · rw [if_pos c6] at H
        have c6b0 : (t235 == 10) = true := beq_iff_eq.mpr c6
        have c6b1 : (t235 != 10) = false := bne_eq_false_iff_eq.mpr c6
        clear c6
        have H' := Aside0.mk H
        clear H
        go_wp2
        go_meet
        case rel => exact ⟨_, (true), (by first | rfl | (simp; done) | (simp [*]; done) | (simp [wrap64]; done)), H', ⟨by first | omega | exact Nat.le_refl _⟩, by repeat (first | exact Drawn0.refl _ | apply Drawn0.step)⟩
      · rw [if_neg c6] at H
        have c6b0 : (t235 == 10) = false := beq_eq_false_iff_ne.mpr c6
        have c6b1 : (t235 != 10) = true := bne_iff_ne.mpr c6
        by_cases c7 : t235 = 13
        · rw [if_pos c7] at H
          have c7b0 : (t235 == 13) = true := beq_iff_eq.mpr c7
          have c7b1 : (t235 != 13) = false := bne_eq_false_iff_eq.mpr c7
          clear c7
          have H' := Aside0.mk H
          clear H
          go_wp2
          go_meet
          case rel => exact ⟨_, (true), (by first | rfl | (simp; done) | (simp [*]; done) | (simp [wrap64]; done)), H', ⟨by first | omega | exact Nat.le_refl _⟩, by repeat (first | exact Drawn0.refl _ | apply Drawn0.step)⟩
        · rw [if_neg c7] at H
          have c7b0 : (t235 == 13) = false := beq_eq_false_iff_ne.mpr c7
          have c7b1 : (t235 != 13) = true := bne_iff_ne.mpr c7
          by_cases c8 : t235 ≥ 32
          · rw [if_pos c8] at H
            have c8b0 : decide (32 ≤ t235) = true := decide_eq_true c8
            clear c8
            by_cases c9 : t235 ≤ 126
            · rw [if_pos c9] at H
              have c9b0 : decide (t235 ≤ 126) = true := decide_eq_true c9
              clear c9
              have H' := Aside0.mk H
              clear H
              go_wp2
              go_meet
              case rel => exact ⟨_, (true), (by first | rfl | (simp; done) | (simp [*]; done) | (simp [wrap64]; done)), H', ⟨by first | omega | exact Nat.le_refl _⟩, by repeat (first | exact Drawn0.refl _ | apply Drawn0.step)⟩
            · rw [if_neg c9] at H
              have c9b0 : decide (t235 ≤ 126) = false := decide_eq_false c9
              clear c9
              have H' := Aside0.mk H
              clear H
              go_wp2
              go_meet
              case rel => exact ⟨_, ((t235 == 133)), (by first | rfl | (simp; done) | (simp [*]; done) | (simp [wrap64]; done)), H', ⟨by first | omega | exact Nat.le_refl _⟩, by repeat (first | exact Drawn0.refl _ | apply Drawn0.step)⟩
          · rw [if_neg c8] at H
            have c8b0 : decide (32 ≤ t235) = false := decide_eq_false c8
            clear c8
            have H' := Aside0.mk H
            clear H
            go_wp2
            go_meet
            case rel => exact ⟨_, ((t235 == 133)), (by first | rfl | (simp; done) | (simp [*]; done) | (simp [wrap64]; done)), H', ⟨by first | omega | exact Nat.le_refl _⟩, by repeat (first | exact Drawn0.refl _ | apply Drawn0.step)⟩
  case rest =>
    clear HC4
    try clear c1
    try clear c2
    try clear p2
    try clear c5
    try clear c5b0
    try clear c5b1
    try clear c6
    try clear c6b0
    try clear c6b1
    try clear c7
    try clear c7b0
    try clear c7b1
    try clear c8
    try clear c8b0
    try clear c9
    try clear c9b0
    obtain ⟨kq, x13_3, rfl, HA, HJ3, ⟨mc3, rfl⟩⟩ := hcut
    cases kq with
    | zero => exact absurd HA.out (by simp [targumref1_May.j0])
    | succ kj3 =>
      have H := HA.out
      clear HA
      simp only [targumref1_May.j0] at H
      by_cases c10 : x13_3 = true
      · subst c10
        have H1 : (some t236) = some r := by rw [if_pos rfl] at H; exact H
        clear H
        have H := H1
        clear H1
        obtain rfl := Option.some.inj H
        go_wp2
        go_ret
        exact ⟨by first | rfl | (simp; done) | (simp [*]; done) | (simp [wrap64]; done), by repeat (first | exact Drawn0.refl _ | apply Drawn0.step)⟩
      · replace c10 := Bool.eq_false_iff.mpr c10
        subst c10
        have H1 : (if t235 ≥ 160 then (if t235 ≤ 65533 then (if t235 = 65279 then (if t235 ≥ 65536 then (some t236) else (some 0)) else (some t236)) else (if t235 ≥ 65536 then (some t236) else (some 0))) else (if t235 ≥ 65536 then (some t236) else (some 0))) = some r := by rw [if_neg (show ¬ (false = true) by decide)] at H; exact H
        clear H
        have H := H1
        clear H1
        by_cases c11 : t235 ≥ 160
        · rw [if_pos c11] at H
          have c11b0 : decide (160 ≤ t235) = true := decide_eq_true c11
          clear c11
          by_cases c12 : t235 ≤ 65533
          · rw [if_pos c12] at H
            have c12b0 : decide (t235 ≤ 65533) = true := decide_eq_true c12
            clear c12
            by_cases c13 : t235 = 65279
            · rw [if_pos c13] at H
              have c13b0 : (t235 == 65279) = true := beq_iff_eq.mpr c13
              have c13b1 : (t235 != 65279) = false := bne_eq_false_iff_eq.mpr c13
              clear c13
              by_cases c14 : t235 ≥ 65536
              · rw [if_pos c14] at H
                have c14b0 : decide (65536 ≤ t235) = true := decide_eq_true c14
                clear c14
                obtain rfl := Option.some.inj H
                go_wp2
                go_ret
                exact ⟨by first | rfl | (simp; done) | (simp [*]; done) | (simp [wrap64]; done), by repeat (first | exact Drawn0.refl _ | apply Drawn0.step)⟩
              · rw [if_neg c14] at H
                have c14b0 : decide (65536 ≤ t235) = false := decide_eq_false c14
                clear c14
                obtain rfl := Option.some.inj H
                go_wp2
                go_ret
                exact ⟨by first | rfl | (simp; done) | (simp [*]; done) | (simp [wrap64]; done), by repeat (first | exact Drawn0.refl _ | apply Drawn0.step)⟩
            · rw [if_neg c13] at H
              have c13b0 : (t235 == 65279) = false := beq_eq_false_iff_ne.mpr c13
              have c13b1 : (t235 != 65279) = true := bne_iff_ne.mpr c13
              obtain rfl := Option.some.inj H
              go_wp2
              go_ret
              exact ⟨by first | rfl | (simp; done) | (simp [*]; done) | (simp [wrap64]; done), by repeat (first | exact Drawn0.refl _ | apply Drawn0.step)⟩
          · rw [if_neg c12] at H
            have c12b0 : decide (t235 ≤ 65533) = false := decide_eq_false c12
            clear c12
            by_cases c15 : t235 ≥ 65536
            · rw [if_pos c15] at H
              have c15b0 : decide (65536 ≤ t235) = true := decide_eq_true c15
              clear c15
              obtain rfl := Option.some.inj H
              go_wp2
              go_ret
              exact ⟨by first | rfl | (simp; done) | (simp [*]; done) | (simp [wrap64]; done), by repeat (first | exact Drawn0.refl _ | apply Drawn0.step)⟩
            · rw [if_neg c15] at H
              have c15b0 : decide (65536 ≤ t235) = false := decide_eq_false c15
              clear c15
              obtain rfl := Option.some.inj H
              go_wp2
              go_ret
              exact ⟨by first | rfl | (simp; done) | (simp [*]; done) | (simp [wrap64]; done), by repeat (first | exact Drawn0.refl _ | apply Drawn0.step)⟩
        · rw [if_neg c11] at H
          have c11b0 : decide (160 ≤ t235) = false := decide_eq_false c11
          clear c11
          by_cases c16 : t235 ≥ 65536
          · rw [if_pos c16] at H
            have c16b0 : decide (65536 ≤ t235) = true := decide_eq_true c16
            clear c16
            obtain rfl := Option.some.inj H
            go_wp2
            go_ret
            exact ⟨by first | rfl | (simp; done) | (simp [*]; done) | (simp [wrap64]; done), by repeat (first | exact Drawn0.refl _ | apply Drawn0.step)⟩
          · rw [if_neg c16] at H
            have c16b0 : decide (65536 ≤ t235) = false := decide_eq_false c16
            clear c16
            obtain rfl := Option.some.inj H
            go_wp2
            go_ret
            exact ⟨by first | rfl | (simp; done) | (simp [*]; done) | (simp [wrap64]; done), by repeat (first | exact Drawn0.refl _ | apply Drawn0.step)⟩

/-! ### targumref1_Check: function 19 -/
def targumref1_Check.l0 : Nat → ByteArray → Int → Option (Int)
  | 0, _, _ => none
  | k + 1, x0, x3 => if x3 < (x0.size : Int) then ((targumref1_May.f k x0 x3).bind fun t237 => (if t237 = 0 then (some x3) else (targumref1_Check.l0 k x0 (wrap64 (x3 + t237))))) else (some (-1))
def targumref1_Check.f (k : Nat) (a0 : ByteArray) : Option (Int) := targumref1_Check.l0 k a0 0
theorem targumref1_Check.mono_l : ∀ k, (∀ y0 y1, LeO (targumref1_Check.l0 k y0 y1) (targumref1_Check.l0 (k + 1) y0 y1))
  | 0 => fun _ _ r h => by simp [targumref1_Check.l0] at h
  | k + 1 => by
    have ih0 := targumref1_Check.mono_l k
    · intro y0 y1
      unfold targumref1_Check.l0
      repeat' first
      | (with_reducible exact ih0 _ _)
      | (with_reducible exact targumref1_May.mono _ _ _)
      | (with_reducible exact LeO.refl _)
      | (with_reducible exact LeO.none _)
      | (with_reducible refine LeO.ite ?_ ?_)
      | (with_reducible refine LeO.bind ?_ (fun _ => ?_))
      | exact ih0 _ _
      | exact targumref1_May.mono _ _ _
      | exact LeO.none _
      | refine LeO.ite ?_ ?_
      | refine LeO.bind ?_ (fun _ => ?_)
theorem targumref1_Check.mono : ∀ a0 k, LeO (targumref1_Check.f k a0) (targumref1_Check.f (k + 1) a0) := by
  intro a0 k
  have ih0 := targumref1_Check.mono_l k
  unfold targumref1_Check.f
  repeat' first
      | (with_reducible exact ih0 _ _)
      | (with_reducible exact targumref1_May.mono _ _ _)
      | (with_reducible exact LeO.refl _)
      | (with_reducible exact LeO.none _)
      | (with_reducible refine LeO.ite ?_ ?_)
      | (with_reducible refine LeO.bind ?_ (fun _ => ?_))
      | exact ih0 _ _
      | exact targumref1_May.mono _ _ _
      | exact LeO.none _
      | refine LeO.ite ?_ ?_
      | refine LeO.bind ?_ (fun _ => ?_)
set_option maxHeartbeats 8000000 in
set_option maxRecDepth 100000 in
theorem targumref1_Check.calls (k : Nat) (a0 : ByteArray) (r : Int) (w : World) (h : targumref1_Check.f k a0 = some r) :
    Calls Tryd.prog 19 #[.string a0] w fun e w' => e = .returned (.int .i64 r) ∧ Drawn0 w w' := by
  have H : (targumref1_Check.l0 k a0 0) = some r := h
  clear h
  have H' := Aside0.mk H
  clear H
  go_enter Tryd.func19, Tryd.ntmps19
  go_wp2
  go_loopg [3] k (fun kq v3 w' => ∃ (x3_1 : Int), v3 = .int .i64 x3_1 ∧ Aside0 (targumref1_Check.l0 kq a0 x3_1 = some r) ∧ Aside0 (kq ≤ k) ∧ Drawn0 w w')
  case atStart => exact ⟨(0), (by first | rfl | (simp; done) | (simp [*]; done) | (simp [wrap64]; done)), H', ⟨Nat.le_refl _⟩, by repeat (first | exact Drawn0.refl _ | apply Drawn0.step)⟩
  case round =>
    clear H'
    try clear c1
    obtain ⟨x3_1, rfl, HA, HK1, ⟨m1, rfl⟩⟩ := hrel
    cases gk with
    | zero => exact absurd HA.out (by simp [targumref1_Check.l0])
    | succ k1 =>
      have H := HA.out
      clear HA
      simp only [targumref1_Check.l0] at H
      by_cases c2 : x3_1 < (a0.size : Int)
      · rw [if_pos c2] at H
        have c2b0 : decide (x3_1 < (a0.size : Int)) = true := decide_eq_true c2
        clear c2
        replace H := Option.bind_eq_some_iff.mp H
        obtain ⟨t237, A30, H⟩ := H
        replace H : (if t237 = 0 then (some x3_1) else (targumref1_Check.l0 k1 a0 (wrap64 (x3_1 + t237)))) = some r := H
        have A3 := Aside0.mk A30
        clear A30
        by_cases c4 : t237 = 0
        · rw [if_pos c4] at H
          have c4b0 : (t237 == 0) = true := beq_iff_eq.mpr c4
          have c4b1 : (t237 != 0) = false := bne_eq_false_iff_eq.mpr c4
          clear c4
          obtain rfl := Option.some.inj H
          go_wp2_with (first | ((with_reducible refine gate_callee (f := 18) rfl ?_); refine goesL_ (some 11) rfl rfl Tryd.func18 (by kernel_rfl) rfl #[.string a0, .int .i64 x3_1] rfl (by (try simp only [List.map_toArray, List.map_cons, List.map_nil]); first | done | rfl | (simp only [List.length_drop, List.length_take]; rfl)) ?_; (with_reducible refine (targumref1_May.calls k1 a0 x3_1 t237 _ A3.out).mono ?_); rintro e w' ⟨rfl, ⟨nd, rfl⟩⟩; refine ⟨_, rfl, ?_⟩))
          go_ret
          exact ⟨by first | rfl | (simp; done) | (simp [*]; done) | (simp [wrap64]; done), by repeat (first | exact Drawn0.refl _ | apply Drawn0.step)⟩
        · rw [if_neg c4] at H
          have c4b0 : (t237 == 0) = false := beq_eq_false_iff_ne.mpr c4
          have c4b1 : (t237 != 0) = true := bne_iff_ne.mpr c4
          have H' := Aside0.mk H
          clear H
          go_wp2_with (first | ((with_reducible refine gate_callee (f := 18) rfl ?_); refine goesL_ (some 11) rfl rfl Tryd.func18 (by kernel_rfl) rfl #[.string a0, .int .i64 x3_1] rfl (by (try simp only [List.map_toArray, List.map_cons, List.map_nil]); first | done | rfl | (simp only [List.length_drop, List.length_take]; rfl)) ?_; (with_reducible refine (targumref1_May.calls k1 a0 x3_1 t237 _ A3.out).mono ?_); rintro e w' ⟨rfl, ⟨nd, rfl⟩⟩; refine ⟨_, rfl, ?_⟩))
          go_roundg k1
          case measure => have := HK1.out; omega
          case rel => exact ⟨(wrap64 (x3_1 + t237)), (by first | rfl | (simp; done) | (simp [*]; done) | (simp [wrap64]; done)), H', ⟨by have := HK1.out; omega⟩, by repeat (first | exact Drawn0.refl _ | apply Drawn0.step)⟩
      · rw [if_neg c2] at H
        have c2b0 : decide (x3_1 < (a0.size : Int)) = false := decide_eq_false c2
        clear c2
        obtain rfl := Option.some.inj H
        go_wp2
        go_ret
        exact ⟨by first | rfl | (simp; done) | (simp [*]; done) | (simp [wrap64]; done), by repeat (first | exact Drawn0.refl _ | apply Drawn0.step)⟩

/-! ### targumref1_isLine: function 34 -/
def targumref1_isLine.f (a0 : ByteArray) (a1_0 : Int) (a1_1 : Int) (a1_2 : Int) : Option (Bool) := if a1_0 ≥ 0 then (if a1_0 ≤ a1_1 then (if a1_1 ≤ a1_2 then (some (decide (a1_2 ≤ (a0.size : Int)))) else (some false)) else (some false)) else (some false)
set_option maxHeartbeats 8000000 in
set_option maxRecDepth 100000 in
theorem targumref1_isLine.calls (a0 : ByteArray) (a1_0 : Int) (a1_1 : Int) (a1_2 : Int) (r : Bool) (w : World) (h : targumref1_isLine.f a0 a1_0 a1_1 a1_2 = some r) :
    Calls Tryd.prog 34 #[.string a0, .agg #[.int .i64 a1_0, .int .i64 a1_1, .int .i64 a1_2]] w fun e w' => e = .returned (.bool r) ∧ Below w.heap.size w w' := by
  have hu27 := Tryd.underlying27
  have HB := Aside0.mk (Below.refl w.heap.size w)
  have H : (if a1_0 ≥ 0 then (if a1_0 ≤ a1_1 then (if a1_1 ≤ a1_2 then (some (decide (a1_2 ≤ (a0.size : Int)))) else (some false)) else (some false)) else (some false)) = some r := h
  clear h
  by_cases c3 : a1_0 ≥ 0
  · rw [if_pos c3] at H
    have c3b0 : decide (0 ≤ a1_0) = true := decide_eq_true c3
    clear c3
    by_cases c4 : a1_0 ≤ a1_1
    · rw [if_pos c4] at H
      have c4b0 : decide (a1_0 ≤ a1_1) = true := decide_eq_true c4
      clear c4
      by_cases c5 : a1_1 ≤ a1_2
      · rw [if_pos c5] at H
        have c5b0 : decide (a1_1 ≤ a1_2) = true := decide_eq_true c5
        clear c5
        obtain rfl := Option.some.inj H
        go_enter Tryd.func34, Tryd.ntmps34
        go_wp2_with (first | ((with_reducible refine gate_dst (N := 3) rfl ?_); (try (refine gate_guard (by rfl) ?_; dsimp only)); refine box_event ?hg (N := 3) ?hd (cs := #[.int .i64 a1_0, .int .i64 a1_1, .int .i64 a1_2]) (t := 27) ?hr ?_; (case hd => rfl); (case hg => rfl); (case hr => first | (go_simp; done) | (go_simp; rfl)); intro gb238 hg w6 hbox hb; have n0_ := Aside0.mk (below_step (by repeat (first | (with_reducible first | exact HB.out | apply below_alloc | apply pw_below_drewN | apply below_drew1) | exact HB.out)) hb); have n1_ := Aside0.mk (hbox); have n2_ := Aside0.mk ((by rw [hg]; exact (below_size (by repeat (first | (with_reducible first | exact HB.out | apply below_alloc | apply pw_below_drewN | apply below_drew1) | exact HB.out))) : w.heap.size ≤ gb238)); have n3_ := Aside0.mk ((by rw [hg]; exact (below_size (by repeat (first | (with_reducible first | exact HB.out | apply below_alloc | apply pw_below_drewN | apply below_drew1) | exact HB.out))) : w.heap.size ≤ gb238)); clear HB; have HB := n0_; have BK238 := n1_; have GW238 := n2_; have GE238 := n3_; clear n0_ n1_ n2_ n3_; clear hb hbox hg; have hcz7_0 : w6.cell? ⟨gb238, 0, none⟩ = some (.int .i64 a1_0) := (blk_cell BK238.out 0).trans rfl; have hcz7_1 : w6.cell? ⟨gb238, 1, none⟩ = some (.int .i64 a1_1) := (blk_cell BK238.out 1).trans rfl; have hcz7_2 : w6.cell? ⟨gb238, 2, none⟩ = some (.int .i64 a1_2) := (blk_cell BK238.out 2).trans rfl; have hfz7_0 := blk_frozen BK238.out 0; have hfz7_1 := blk_frozen BK238.out 1; have hfz7_2 := blk_frozen BK238.out 2))
        go_ret
        exact ⟨by first | rfl | (simp [errW_none, errW_some] <;> rfl) | (simp [*, errW_none, errW_some] <;> rfl), by repeat (first | (with_reducible first | exact HB.out | apply below_alloc | apply pw_below_drewN | apply below_drew1 | refine below_set ?_ GE238.out) | exact HB.out)⟩
      · rw [if_neg c5] at H
        have c5b0 : decide (a1_1 ≤ a1_2) = false := decide_eq_false c5
        clear c5
        obtain rfl := Option.some.inj H
        go_enter Tryd.func34, Tryd.ntmps34
        go_wp2_with (first | ((with_reducible refine gate_dst (N := 3) rfl ?_); (try (refine gate_guard (by rfl) ?_; dsimp only)); refine box_event ?hg (N := 3) ?hd (cs := #[.int .i64 a1_0, .int .i64 a1_1, .int .i64 a1_2]) (t := 27) ?hr ?_; (case hd => rfl); (case hg => rfl); (case hr => first | (go_simp; done) | (go_simp; rfl)); intro gb238 hg w8 hbox hb; have n0_ := Aside0.mk (below_step (by repeat (first | (with_reducible first | exact HB.out | apply below_alloc | apply pw_below_drewN | apply below_drew1) | exact HB.out)) hb); have n1_ := Aside0.mk (hbox); have n2_ := Aside0.mk ((by rw [hg]; exact (below_size (by repeat (first | (with_reducible first | exact HB.out | apply below_alloc | apply pw_below_drewN | apply below_drew1) | exact HB.out))) : w.heap.size ≤ gb238)); have n3_ := Aside0.mk ((by rw [hg]; exact (below_size (by repeat (first | (with_reducible first | exact HB.out | apply below_alloc | apply pw_below_drewN | apply below_drew1) | exact HB.out))) : w.heap.size ≤ gb238)); clear HB; have HB := n0_; have BK238 := n1_; have GW238 := n2_; have GE238 := n3_; clear n0_ n1_ n2_ n3_; clear hb hbox hg; have hcz9_0 : w8.cell? ⟨gb238, 0, none⟩ = some (.int .i64 a1_0) := (blk_cell BK238.out 0).trans rfl; have hcz9_1 : w8.cell? ⟨gb238, 1, none⟩ = some (.int .i64 a1_1) := (blk_cell BK238.out 1).trans rfl; have hcz9_2 : w8.cell? ⟨gb238, 2, none⟩ = some (.int .i64 a1_2) := (blk_cell BK238.out 2).trans rfl; have hfz9_0 := blk_frozen BK238.out 0; have hfz9_1 := blk_frozen BK238.out 1; have hfz9_2 := blk_frozen BK238.out 2))
        go_ret
        exact ⟨by first | rfl | (simp [errW_none, errW_some] <;> rfl) | (simp [*, errW_none, errW_some] <;> rfl), by repeat (first | (with_reducible first | exact HB.out | apply below_alloc | apply pw_below_drewN | apply below_drew1 | refine below_set ?_ GE238.out) | exact HB.out)⟩
    · rw [if_neg c4] at H
      have c4b0 : decide (a1_0 ≤ a1_1) = false := decide_eq_false c4
      clear c4
      obtain rfl := Option.some.inj H
      go_enter Tryd.func34, Tryd.ntmps34
      go_wp2_with (first | ((with_reducible refine gate_dst (N := 3) rfl ?_); (try (refine gate_guard (by rfl) ?_; dsimp only)); refine box_event ?hg (N := 3) ?hd (cs := #[.int .i64 a1_0, .int .i64 a1_1, .int .i64 a1_2]) (t := 27) ?hr ?_; (case hd => rfl); (case hg => rfl); (case hr => first | (go_simp; done) | (go_simp; rfl)); intro gb238 hg w10 hbox hb; have n0_ := Aside0.mk (below_step (by repeat (first | (with_reducible first | exact HB.out | apply below_alloc | apply pw_below_drewN | apply below_drew1) | exact HB.out)) hb); have n1_ := Aside0.mk (hbox); have n2_ := Aside0.mk ((by rw [hg]; exact (below_size (by repeat (first | (with_reducible first | exact HB.out | apply below_alloc | apply pw_below_drewN | apply below_drew1) | exact HB.out))) : w.heap.size ≤ gb238)); have n3_ := Aside0.mk ((by rw [hg]; exact (below_size (by repeat (first | (with_reducible first | exact HB.out | apply below_alloc | apply pw_below_drewN | apply below_drew1) | exact HB.out))) : w.heap.size ≤ gb238)); clear HB; have HB := n0_; have BK238 := n1_; have GW238 := n2_; have GE238 := n3_; clear n0_ n1_ n2_ n3_; clear hb hbox hg; have hcz11_0 : w10.cell? ⟨gb238, 0, none⟩ = some (.int .i64 a1_0) := (blk_cell BK238.out 0).trans rfl; have hcz11_1 : w10.cell? ⟨gb238, 1, none⟩ = some (.int .i64 a1_1) := (blk_cell BK238.out 1).trans rfl; have hcz11_2 : w10.cell? ⟨gb238, 2, none⟩ = some (.int .i64 a1_2) := (blk_cell BK238.out 2).trans rfl; have hfz11_0 := blk_frozen BK238.out 0; have hfz11_1 := blk_frozen BK238.out 1; have hfz11_2 := blk_frozen BK238.out 2))
      go_ret
      exact ⟨by first | rfl | (simp [errW_none, errW_some] <;> rfl) | (simp [*, errW_none, errW_some] <;> rfl), by repeat (first | (with_reducible first | exact HB.out | apply below_alloc | apply pw_below_drewN | apply below_drew1 | refine below_set ?_ GE238.out) | exact HB.out)⟩
  · rw [if_neg c3] at H
    have c3b0 : decide (0 ≤ a1_0) = false := decide_eq_false c3
    clear c3
    obtain rfl := Option.some.inj H
    go_enter Tryd.func34, Tryd.ntmps34
    go_wp2_with (first | ((with_reducible refine gate_dst (N := 3) rfl ?_); (try (refine gate_guard (by rfl) ?_; dsimp only)); refine box_event ?hg (N := 3) ?hd (cs := #[.int .i64 a1_0, .int .i64 a1_1, .int .i64 a1_2]) (t := 27) ?hr ?_; (case hd => rfl); (case hg => rfl); (case hr => first | (go_simp; done) | (go_simp; rfl)); intro gb238 hg w12 hbox hb; have n0_ := Aside0.mk (below_step (by repeat (first | (with_reducible first | exact HB.out | apply below_alloc | apply pw_below_drewN | apply below_drew1) | exact HB.out)) hb); have n1_ := Aside0.mk (hbox); have n2_ := Aside0.mk ((by rw [hg]; exact (below_size (by repeat (first | (with_reducible first | exact HB.out | apply below_alloc | apply pw_below_drewN | apply below_drew1) | exact HB.out))) : w.heap.size ≤ gb238)); have n3_ := Aside0.mk ((by rw [hg]; exact (below_size (by repeat (first | (with_reducible first | exact HB.out | apply below_alloc | apply pw_below_drewN | apply below_drew1) | exact HB.out))) : w.heap.size ≤ gb238)); clear HB; have HB := n0_; have BK238 := n1_; have GW238 := n2_; have GE238 := n3_; clear n0_ n1_ n2_ n3_; clear hb hbox hg; have hcz13_0 : w12.cell? ⟨gb238, 0, none⟩ = some (.int .i64 a1_0) := (blk_cell BK238.out 0).trans rfl; have hcz13_1 : w12.cell? ⟨gb238, 1, none⟩ = some (.int .i64 a1_1) := (blk_cell BK238.out 1).trans rfl; have hcz13_2 : w12.cell? ⟨gb238, 2, none⟩ = some (.int .i64 a1_2) := (blk_cell BK238.out 2).trans rfl; have hfz13_0 := blk_frozen BK238.out 0; have hfz13_1 := blk_frozen BK238.out 1; have hfz13_2 := blk_frozen BK238.out 2))
    go_ret
    exact ⟨by first | rfl | (simp [errW_none, errW_some] <;> rfl) | (simp [*, errW_none, errW_some] <;> rfl), by repeat (first | (with_reducible first | exact HB.out | apply below_alloc | apply pw_below_drewN | apply below_drew1 | refine below_set ?_ GE238.out) | exact HB.out)⟩

/-! ### targumref1_Indent: function 21 -/
def targumref1_Indent.l0 : Nat → ByteArray → Int → Int → Int → Int → Option (Int)
  | 0, _, _, _, _, _ => none
  | k + 1, x0, x5, x240000, x240001, x240002 => if (wrap64 (x240000 + x5)) < x240001 then (if 0 ≤ (wrap64 (x240000 + x5)) then (if (wrap64 (x240000 + x5)) < (x0.size : Int) then (if (bt x0 (wrap64 (x240000 + x5))) = 32 then (targumref1_Indent.l0 k x0 (wrap64 (x5 + 1)) x240000 x240001 x240002) else (some x5)) else (none)) else (none)) else (some x5)
def targumref1_Indent.f (k : Nat) (a0 : ByteArray) (a1_0 : Int) (a1_1 : Int) (a1_2 : Int) : Option (Int) := (targumref1_isLine.f a0 a1_0 a1_1 a1_2).bind fun t240 => (if t240 = true then (targumref1_Indent.l0 k a0 0 a1_0 a1_1 a1_2) else (some 0))
theorem targumref1_Indent.mono_l : ∀ k, (∀ y0 y1 y2 y3 y4, LeO (targumref1_Indent.l0 k y0 y1 y2 y3 y4) (targumref1_Indent.l0 (k + 1) y0 y1 y2 y3 y4))
  | 0 => fun _ _ _ _ _ r h => by simp [targumref1_Indent.l0] at h
  | k + 1 => by
    have ih0 := targumref1_Indent.mono_l k
    · intro y0 y1 y2 y3 y4
      unfold targumref1_Indent.l0
      repeat' first
      | (with_reducible exact ih0 _ _ _ _ _)
      | (with_reducible exact LeO.refl _)
      | (with_reducible exact LeO.none _)
      | (with_reducible refine LeO.ite ?_ ?_)
      | (with_reducible refine LeO.bind ?_ (fun _ => ?_))
      | exact ih0 _ _ _ _ _
      | exact LeO.none _
      | refine LeO.ite ?_ ?_
      | refine LeO.bind ?_ (fun _ => ?_)
theorem targumref1_Indent.mono : ∀ a0 a1 a2 a3 k, LeO (targumref1_Indent.f k a0 a1 a2 a3) (targumref1_Indent.f (k + 1) a0 a1 a2 a3) := by
  intro a0 a1 a2 a3 k
  have ih0 := targumref1_Indent.mono_l k
  unfold targumref1_Indent.f
  repeat' first
      | (with_reducible exact ih0 _ _ _ _ _)
      | (with_reducible exact LeO.refl _)
      | (with_reducible exact LeO.none _)
      | (with_reducible refine LeO.ite ?_ ?_)
      | (with_reducible refine LeO.bind ?_ (fun _ => ?_))
      | exact ih0 _ _ _ _ _
      | exact LeO.none _
      | refine LeO.ite ?_ ?_
      | refine LeO.bind ?_ (fun _ => ?_)
set_option maxHeartbeats 8000000 in
set_option maxRecDepth 100000 in
theorem targumref1_Indent.calls (k : Nat) (a0 : ByteArray) (a1_0 : Int) (a1_1 : Int) (a1_2 : Int) (r : Int) (w : World) (h : targumref1_Indent.f k a0 a1_0 a1_1 a1_2 = some r) :
    Calls Tryd.prog 21 #[.string a0, .agg #[.int .i64 a1_0, .int .i64 a1_1, .int .i64 a1_2]] w fun e w' => e = .returned (.int .i64 r) ∧ Below w.heap.size w w' := by
  have hu27 := Tryd.underlying27
  have HB := Aside0.mk (Below.refl w.heap.size w)
  have H : ((targumref1_isLine.f a0 a1_0 a1_1 a1_2).bind fun t240 => (if t240 = true then (targumref1_Indent.l0 k a0 0 a1_0 a1_1 a1_2) else (some 0))) = some r := h
  clear h
  replace H := Option.bind_eq_some_iff.mp H
  obtain ⟨t240, A30, H⟩ := H
  replace H : (if t240 = true then (targumref1_Indent.l0 k a0 0 a1_0 a1_1 a1_2) else (some 0)) = some r := H
  have A3 := Aside0.mk A30
  clear A30
  by_cases c4 : t240 = true
  · subst c4
    have H1 : (targumref1_Indent.l0 k a0 0 a1_0 a1_1 a1_2) = some r := by rw [if_pos rfl] at H; exact H
    clear H
    have H := H1
    clear H1
    have H' := Aside0.mk H
    clear H
    go_enter Tryd.func21, Tryd.ntmps21
    go_wp2_with (first | ((with_reducible refine gate_dst (N := 3) rfl ?_); refine box_event ?hg (N := 3) ?hd (cs := #[.int .i64 a1_0, .int .i64 a1_1, .int .i64 a1_2]) (t := 27) ?hr ?_; (case hd => rfl); (case hg => rfl); (case hr => first | (go_simp; done) | (go_simp; rfl)); intro gb239 hg w5 hbox hb; have n0_ := Aside0.mk (below_step (by repeat (first | (with_reducible first | exact HB.out | apply below_alloc | apply pw_below_drewN | apply below_drew1) | exact HB.out)) hb); have n1_ := Aside0.mk (hbox); have n2_ := Aside0.mk ((by rw [hg]; exact (below_size (by repeat (first | (with_reducible first | exact HB.out | apply below_alloc | apply pw_below_drewN | apply below_drew1) | exact HB.out))) : w.heap.size ≤ gb239)); have n3_ := Aside0.mk ((by rw [hg]; exact (below_size (by repeat (first | (with_reducible first | exact HB.out | apply below_alloc | apply pw_below_drewN | apply below_drew1) | exact HB.out))) : w.heap.size ≤ gb239)); clear HB; have HB := n0_; have BK239 := n1_; have GW239 := n2_; have GE239 := n3_; clear n0_ n1_ n2_ n3_; clear hb hbox hg; have hcz6_0 : w5.cell? ⟨gb239, 0, none⟩ = some (.int .i64 a1_0) := (blk_cell BK239.out 0).trans rfl; have hcz6_1 : w5.cell? ⟨gb239, 1, none⟩ = some (.int .i64 a1_1) := (blk_cell BK239.out 1).trans rfl; have hcz6_2 : w5.cell? ⟨gb239, 2, none⟩ = some (.int .i64 a1_2) := (blk_cell BK239.out 2).trans rfl; have hfz6_0 := blk_frozen BK239.out 0; have hfz6_1 := blk_frozen BK239.out 1; have hfz6_2 := blk_frozen BK239.out 2) | ((with_reducible refine gate_callee (f := 34) rfl ?_); refine goesL_ (some 8) rfl rfl Tryd.func34 (by kernel_rfl) rfl #[.string a0, .agg #[.int .i64 a1_0, .int .i64 a1_1, .int .i64 a1_2]] rfl (by (try simp only [List.map_toArray, List.map_cons, List.map_nil]); first | done | rfl | (simp only [List.length_drop, List.length_take]; rfl)) ?_; (with_reducible refine (targumref1_isLine.calls a0 a1_0 a1_1 a1_2 true _ A3.out).mono ?_); rintro e w7 ⟨rfl, hb⟩; refine ⟨_, rfl, ?_⟩; have n0_ := Aside0.mk (blk_below (g := gb239) (o := .cells #[.int .i64 a1_0, .int .i64 a1_1, .int .i64 a1_2] 27 (0, 0)) (by (with_reducible repeat (first | refine blk_drewN ?_ _ | refine blk_drew ?_ | refine blk_alloc ?_ _)); exact BK239.out) hb); have n1_ := Aside0.mk (below_step (by repeat (first | (with_reducible first | exact HB.out | apply below_alloc | apply pw_below_drewN | apply below_drew1 | refine below_set ?_ GE239.out) | exact HB.out)) hb); clear BK239; clear HB; have BK239 := n0_; have HB := n1_; clear n0_ n1_; (try clear hb); (try clear hb2); (try clear hk); (try clear hi)))
    go_loopg [5] k (fun kq v5 w' => ∃ (x5_1 : Int), v5 = .int .i64 x5_1 ∧ Aside0 (targumref1_Indent.l0 kq a0 x5_1 a1_0 a1_1 a1_2 = some r) ∧ Aside0 (kq ≤ k) ∧ Aside0 (w'.heap[gb239]? = some (.cells #[.int .i64 a1_0, .int .i64 a1_1, .int .i64 a1_2] 27 (0, 0))) ∧ Aside0 (Below w.heap.size w w'))
    case atStart => exact ⟨(0), (by first | rfl | (simp; done) | (simp [*]; done) | (simp [wrap64]; done)), H', ⟨Nat.le_refl _⟩, ⟨by (with_reducible repeat (first | refine blk_drewN ?_ _ | refine blk_drew ?_ | refine blk_alloc ?_ _)); exact BK239.out⟩, ⟨by repeat (first | (with_reducible first | exact HB.out | apply below_alloc | apply pw_below_drewN | apply below_drew1 | refine below_set ?_ GE239.out) | exact HB.out)⟩⟩
    case round =>
      clear H'
      try clear c2
      try clear p2
      try clear c3
      try clear c4
      try clear hcz6_0
      try clear hcz6_1
      try clear hcz6_2
      try clear hfz6_0
      try clear hfz6_1
      try clear hfz6_2
      obtain ⟨x5_1, rfl, HA, HK1, BK239, HB⟩ := hrel
      cases gk with
      | zero => exact absurd HA.out (by simp [targumref1_Indent.l0])
      | succ k1 =>
        have H := HA.out
        clear HA
        simp only [targumref1_Indent.l0] at H
        by_cases c8 : (wrap64 (a1_0 + x5_1)) < a1_1
        · rw [if_pos c8] at H
          have c8b0 : decide ((wrap64 (a1_0 + x5_1)) < a1_1) = true := decide_eq_true c8
          clear c8
          obtain ⟨ji9, hji9⟩ : ∃ j_ : Int, (wrap64 (a1_0 + x5_1)) = j_ := ⟨_, rfl⟩
          replace H : (if 0 ≤ (ji9) then (if (ji9) < (a0.size : Int) then (if (bt a0 (ji9)) = 32 then (targumref1_Indent.l0 k1 a0 (wrap64 (x5_1 + 1)) a1_0 a1_1 a1_2) else (some x5_1)) else (none)) else (none)) = some r := by first | (rw [hji9] at H; exact H) | (simp only [hji9] at H ⊢; exact H)
          (try rw [hji9] at c8b0)
          have hji9w : (IntKind.i64.wrap (a1_0 + x5_1)) = ji9 := (i64_w _).trans hji9
          by_cases c10 : 0 ≤ (ji9)
          · rw [if_pos c10] at H
            have c10b0 : decide (0 ≤ (ji9)) = true := decide_eq_true c10
            clear c10
            by_cases c11 : (ji9) < (a0.size : Int)
            · rw [if_pos c11] at H
              have c11b0 : decide ((ji9) < (a0.size : Int)) = true := decide_eq_true c11
              clear c11
              by_cases c13 : (bt a0 (ji9)) = 32
              · rw [if_pos c13] at H
                have c13b0 : ((bt a0 (ji9)) == 32) = true := beq_iff_eq.mpr c13
                have c13b1 : ((bt a0 (ji9)) != 32) = false := bne_eq_false_iff_eq.mpr c13
                clear c13
                have H' := Aside0.mk H
                clear H
                have hcz14_0 : wr.cell? ⟨gb239, 0, none⟩ = some (.int .i64 a1_0) := (blk_cell BK239.out 0).trans rfl
                have hcz14_1 : wr.cell? ⟨gb239, 1, none⟩ = some (.int .i64 a1_1) := (blk_cell BK239.out 1).trans rfl
                have hcz14_2 : wr.cell? ⟨gb239, 2, none⟩ = some (.int .i64 a1_2) := (blk_cell BK239.out 2).trans rfl
                have hfz14_0 := blk_frozen BK239.out 0
                have hfz14_1 := blk_frozen BK239.out 1
                have hfz14_2 := blk_frozen BK239.out 2
                have p12 : 0 ≤ ((ji9) : Int) := of_decide_eq_true (by first | (with_reducible assumption) | assumption)
                have q12 : (ji9) < (a0.size : Int) := of_decide_eq_true (by first | (with_reducible assumption) | assumption)
                have hx12 := bt_at a0 (ji9)
                replace p12 := eq_true p12
                replace q12 := eq_true q12
                go_wp2
                go_roundg k1
                case measure => have := HK1.out; omega
                case rel => exact ⟨(wrap64 (x5_1 + 1)), (by first | rfl | (simp; done) | (simp [*]; done) | (simp [wrap64]; done)), H', ⟨by have := HK1.out; omega⟩, ⟨by (with_reducible repeat (first | refine blk_drewN ?_ _ | refine blk_drew ?_ | refine blk_alloc ?_ _)); exact BK239.out⟩, ⟨by repeat (first | (with_reducible first | exact HB.out | apply below_alloc | apply pw_below_drewN | apply below_drew1 | refine below_set ?_ GE239.out) | exact HB.out)⟩⟩
              · rw [if_neg c13] at H
                have c13b0 : ((bt a0 (ji9)) == 32) = false := beq_eq_false_iff_ne.mpr c13
                have c13b1 : ((bt a0 (ji9)) != 32) = true := bne_iff_ne.mpr c13
                obtain rfl := Option.some.inj H
                have hcz15_0 : wr.cell? ⟨gb239, 0, none⟩ = some (.int .i64 a1_0) := (blk_cell BK239.out 0).trans rfl
                have hcz15_1 : wr.cell? ⟨gb239, 1, none⟩ = some (.int .i64 a1_1) := (blk_cell BK239.out 1).trans rfl
                have hcz15_2 : wr.cell? ⟨gb239, 2, none⟩ = some (.int .i64 a1_2) := (blk_cell BK239.out 2).trans rfl
                have hfz15_0 := blk_frozen BK239.out 0
                have hfz15_1 := blk_frozen BK239.out 1
                have hfz15_2 := blk_frozen BK239.out 2
                have p12 : 0 ≤ ((ji9) : Int) := of_decide_eq_true (by first | (with_reducible assumption) | assumption)
                have q12 : (ji9) < (a0.size : Int) := of_decide_eq_true (by first | (with_reducible assumption) | assumption)
                have hx12 := bt_at a0 (ji9)
                replace p12 := eq_true p12
                replace q12 := eq_true q12
                go_wp2
                go_ret
                exact ⟨by first | rfl | (simp [errW_none, errW_some] <;> rfl) | (simp only [← hji9]; first | rfl | (simp [errW_none, errW_some] <;> rfl)) | (simp [*, errW_none, errW_some] <;> rfl), by repeat (first | (with_reducible first | exact HB.out | apply below_alloc | apply pw_below_drewN | apply below_drew1 | refine below_set ?_ GE239.out) | exact HB.out)⟩
            · rw [if_neg c11] at H
              exact absurd H (by simp)
          · rw [if_neg c10] at H
            exact absurd H (by simp)
        · rw [if_neg c8] at H
          have c8b0 : decide ((wrap64 (a1_0 + x5_1)) < a1_1) = false := decide_eq_false c8
          clear c8
          obtain rfl := Option.some.inj H
          have hcz16_0 : wr.cell? ⟨gb239, 0, none⟩ = some (.int .i64 a1_0) := (blk_cell BK239.out 0).trans rfl
          have hcz16_1 : wr.cell? ⟨gb239, 1, none⟩ = some (.int .i64 a1_1) := (blk_cell BK239.out 1).trans rfl
          have hcz16_2 : wr.cell? ⟨gb239, 2, none⟩ = some (.int .i64 a1_2) := (blk_cell BK239.out 2).trans rfl
          have hfz16_0 := blk_frozen BK239.out 0
          have hfz16_1 := blk_frozen BK239.out 1
          have hfz16_2 := blk_frozen BK239.out 2
          go_wp2
          go_ret
          exact ⟨by first | rfl | (simp [errW_none, errW_some] <;> rfl) | (simp [*, errW_none, errW_some] <;> rfl), by repeat (first | (with_reducible first | exact HB.out | apply below_alloc | apply pw_below_drewN | apply below_drew1 | refine below_set ?_ GE239.out) | exact HB.out)⟩
  · replace c4 := Bool.eq_false_iff.mpr c4
    subst c4
    have H1 : (some 0) = some r := by rw [if_neg (show ¬ (false = true) by decide)] at H; exact H
    clear H
    have H := H1
    clear H1
    obtain rfl := Option.some.inj H
    go_enter Tryd.func21, Tryd.ntmps21
    go_wp2_with (first | ((with_reducible refine gate_dst (N := 3) rfl ?_); refine box_event ?hg (N := 3) ?hd (cs := #[.int .i64 a1_0, .int .i64 a1_1, .int .i64 a1_2]) (t := 27) ?hr ?_; (case hd => rfl); (case hg => rfl); (case hr => first | (go_simp; done) | (go_simp; rfl)); intro gb239 hg w17 hbox hb; have n0_ := Aside0.mk (below_step (by repeat (first | (with_reducible first | exact HB.out | apply below_alloc | apply pw_below_drewN | apply below_drew1) | exact HB.out)) hb); have n1_ := Aside0.mk (hbox); have n2_ := Aside0.mk ((by rw [hg]; exact (below_size (by repeat (first | (with_reducible first | exact HB.out | apply below_alloc | apply pw_below_drewN | apply below_drew1) | exact HB.out))) : w.heap.size ≤ gb239)); have n3_ := Aside0.mk ((by rw [hg]; exact (below_size (by repeat (first | (with_reducible first | exact HB.out | apply below_alloc | apply pw_below_drewN | apply below_drew1) | exact HB.out))) : w.heap.size ≤ gb239)); clear HB; have HB := n0_; have BK239 := n1_; have GW239 := n2_; have GE239 := n3_; clear n0_ n1_ n2_ n3_; clear hb hbox hg; have hcz18_0 : w17.cell? ⟨gb239, 0, none⟩ = some (.int .i64 a1_0) := (blk_cell BK239.out 0).trans rfl; have hcz18_1 : w17.cell? ⟨gb239, 1, none⟩ = some (.int .i64 a1_1) := (blk_cell BK239.out 1).trans rfl; have hcz18_2 : w17.cell? ⟨gb239, 2, none⟩ = some (.int .i64 a1_2) := (blk_cell BK239.out 2).trans rfl; have hfz18_0 := blk_frozen BK239.out 0; have hfz18_1 := blk_frozen BK239.out 1; have hfz18_2 := blk_frozen BK239.out 2) | ((with_reducible refine gate_callee (f := 34) rfl ?_); refine goesL_ (some 8) rfl rfl Tryd.func34 (by kernel_rfl) rfl #[.string a0, .agg #[.int .i64 a1_0, .int .i64 a1_1, .int .i64 a1_2]] rfl (by (try simp only [List.map_toArray, List.map_cons, List.map_nil]); first | done | rfl | (simp only [List.length_drop, List.length_take]; rfl)) ?_; (with_reducible refine (targumref1_isLine.calls a0 a1_0 a1_1 a1_2 false _ A3.out).mono ?_); rintro e w19 ⟨rfl, hb⟩; refine ⟨_, rfl, ?_⟩; have n0_ := Aside0.mk (blk_below (g := gb239) (o := .cells #[.int .i64 a1_0, .int .i64 a1_1, .int .i64 a1_2] 27 (0, 0)) (by (with_reducible repeat (first | refine blk_drewN ?_ _ | refine blk_drew ?_ | refine blk_alloc ?_ _)); exact BK239.out) hb); have n1_ := Aside0.mk (below_step (by repeat (first | (with_reducible first | exact HB.out | apply below_alloc | apply pw_below_drewN | apply below_drew1 | refine below_set ?_ GE239.out) | exact HB.out)) hb); clear BK239; clear HB; have BK239 := n0_; have HB := n1_; clear n0_ n1_; (try clear hb); (try clear hb2); (try clear hk); (try clear hi)))
    go_ret
    exact ⟨by first | rfl | (simp [errW_none, errW_some] <;> rfl) | (simp [*, errW_none, errW_some] <;> rfl), by repeat (first | (with_reducible first | exact HB.out | apply below_alloc | apply pw_below_drewN | apply below_drew1 | refine below_set ?_ GE239.out) | exact HB.out)⟩

/-! ### targumref1_IsBlank: function 36 -/
def targumref1_IsBlank.f (a0 : ByteArray) (a1 : Int) : Option (Bool) := if a1 ≥ 0 then (if a1 < (a0.size : Int) then (if 0 ≤ a1 then (if (bt a0 a1) = 32 then (some true) else (some ((bt a0 a1) == 9))) else (none)) else (some false)) else (some false)
set_option maxHeartbeats 8000000 in
set_option maxRecDepth 100000 in
theorem targumref1_IsBlank.calls (a0 : ByteArray) (a1 : Int) (r : Bool) (w : World) (h : targumref1_IsBlank.f a0 a1 = some r) :
    Calls Tryd.prog 36 #[.string a0, .int .i64 a1] w fun e w' => e = .returned (.bool r) ∧ Drawn0 w w' := by
  have H : (if a1 ≥ 0 then (if a1 < (a0.size : Int) then (if 0 ≤ a1 then (if (bt a0 a1) = 32 then (some true) else (some ((bt a0 a1) == 9))) else (none)) else (some false)) else (some false)) = some r := h
  clear h
  by_cases c3 : a1 ≥ 0
  · rw [if_pos c3] at H
    have c3b0 : decide (0 ≤ a1) = true := decide_eq_true c3
    clear c3
    by_cases c4 : a1 < (a0.size : Int)
    · rw [if_pos c4] at H
      have c4b0 : decide (a1 < (a0.size : Int)) = true := decide_eq_true c4
      clear c4
      by_cases c5 : 0 ≤ a1
      · rw [if_pos c5] at H
        have c5b0 : decide (0 ≤ a1) = true := decide_eq_true c5
        clear c5
        by_cases c7 : (bt a0 a1) = 32
        · rw [if_pos c7] at H
          have c7b0 : ((bt a0 a1) == 32) = true := beq_iff_eq.mpr c7
          have c7b1 : ((bt a0 a1) != 32) = false := bne_eq_false_iff_eq.mpr c7
          clear c7
          obtain rfl := Option.some.inj H
          have p6 : 0 ≤ (a1 : Int) := of_decide_eq_true (by first | (with_reducible assumption) | assumption)
          have q6 : a1 < (a0.size : Int) := of_decide_eq_true (by first | (with_reducible assumption) | assumption)
          have hx6 := bt_at a0 a1
          replace p6 := eq_true p6
          replace q6 := eq_true q6
          go_enter Tryd.func36, Tryd.ntmps36
          go_wp2
          go_ret
          exact ⟨by first | rfl | (simp; done) | (simp [*]; done) | (simp [wrap64]; done), by repeat (first | exact Drawn0.refl _ | apply Drawn0.step)⟩
        · rw [if_neg c7] at H
          have c7b0 : ((bt a0 a1) == 32) = false := beq_eq_false_iff_ne.mpr c7
          have c7b1 : ((bt a0 a1) != 32) = true := bne_iff_ne.mpr c7
          obtain rfl := Option.some.inj H
          have p6 : 0 ≤ (a1 : Int) := of_decide_eq_true (by first | (with_reducible assumption) | assumption)
          have q6 : a1 < (a0.size : Int) := of_decide_eq_true (by first | (with_reducible assumption) | assumption)
          have hx6 := bt_at a0 a1
          replace p6 := eq_true p6
          replace q6 := eq_true q6
          have p8 : 0 ≤ (a1 : Int) := of_decide_eq_true (by first | (with_reducible assumption) | assumption)
          have q8 : a1 < (a0.size : Int) := of_decide_eq_true (by first | (with_reducible assumption) | assumption)
          have hx8 := bt_at a0 a1
          replace p8 := eq_true p8
          replace q8 := eq_true q8
          go_enter Tryd.func36, Tryd.ntmps36
          go_wp2
          go_ret
          exact ⟨by first | rfl | (simp; done) | (simp [*]; done) | (simp [wrap64]; done), by repeat (first | exact Drawn0.refl _ | apply Drawn0.step)⟩
      · rw [if_neg c5] at H
        exact absurd H (by simp)
    · rw [if_neg c4] at H
      have c4b0 : decide (a1 < (a0.size : Int)) = false := decide_eq_false c4
      clear c4
      obtain rfl := Option.some.inj H
      go_enter Tryd.func36, Tryd.ntmps36
      go_wp2
      go_ret
      exact ⟨by first | rfl | (simp; done) | (simp [*]; done) | (simp [wrap64]; done), by repeat (first | exact Drawn0.refl _ | apply Drawn0.step)⟩
  · rw [if_neg c3] at H
    have c3b0 : decide (0 ≤ a1) = false := decide_eq_false c3
    clear c3
    obtain rfl := Option.some.inj H
    go_enter Tryd.func36, Tryd.ntmps36
    go_wp2
    go_ret
    exact ⟨by first | rfl | (simp; done) | (simp [*]; done) | (simp [wrap64]; done), by repeat (first | exact Drawn0.refl _ | apply Drawn0.step)⟩

/-! ### targumref1_Blank: function 23 -/
def targumref1_Blank.l0 : Nat → ByteArray → Int → Int → Int → Int → Option (Bool)
  | 0, _, _, _, _, _ => none
  | k + 1, x0, x5, x242000, x242001, x242002 => if x5 < x242001 then ((targumref1_IsBlank.f x0 x5).bind fun t243 => (if t243 = true then (targumref1_Blank.l0 k x0 (wrap64 (x5 + 1)) x242000 x242001 x242002) else (some false))) else (some true)
def targumref1_Blank.f (k : Nat) (a0 : ByteArray) (a1_0 : Int) (a1_1 : Int) (a1_2 : Int) : Option (Bool) := (targumref1_isLine.f a0 a1_0 a1_1 a1_2).bind fun t242 => (if t242 = true then (targumref1_Blank.l0 k a0 a1_0 a1_0 a1_1 a1_2) else (some false))
theorem targumref1_Blank.mono_l : ∀ k, (∀ y0 y1 y2 y3 y4, LeO (targumref1_Blank.l0 k y0 y1 y2 y3 y4) (targumref1_Blank.l0 (k + 1) y0 y1 y2 y3 y4))
  | 0 => fun _ _ _ _ _ r h => by simp [targumref1_Blank.l0] at h
  | k + 1 => by
    have ih0 := targumref1_Blank.mono_l k
    · intro y0 y1 y2 y3 y4
      unfold targumref1_Blank.l0
      repeat' first
      | (with_reducible exact ih0 _ _ _ _ _)
      | (with_reducible exact LeO.refl _)
      | (with_reducible exact LeO.none _)
      | (with_reducible refine LeO.ite ?_ ?_)
      | (with_reducible refine LeO.bind ?_ (fun _ => ?_))
      | exact ih0 _ _ _ _ _
      | exact LeO.none _
      | refine LeO.ite ?_ ?_
      | refine LeO.bind ?_ (fun _ => ?_)
theorem targumref1_Blank.mono : ∀ a0 a1 a2 a3 k, LeO (targumref1_Blank.f k a0 a1 a2 a3) (targumref1_Blank.f (k + 1) a0 a1 a2 a3) := by
  intro a0 a1 a2 a3 k
  have ih0 := targumref1_Blank.mono_l k
  unfold targumref1_Blank.f
  repeat' first
      | (with_reducible exact ih0 _ _ _ _ _)
      | (with_reducible exact LeO.refl _)
      | (with_reducible exact LeO.none _)
      | (with_reducible refine LeO.ite ?_ ?_)
      | (with_reducible refine LeO.bind ?_ (fun _ => ?_))
      | exact ih0 _ _ _ _ _
      | exact LeO.none _
      | refine LeO.ite ?_ ?_
      | refine LeO.bind ?_ (fun _ => ?_)
set_option maxHeartbeats 8000000 in
set_option maxRecDepth 100000 in
theorem targumref1_Blank.calls (k : Nat) (a0 : ByteArray) (a1_0 : Int) (a1_1 : Int) (a1_2 : Int) (r : Bool) (w : World) (h : targumref1_Blank.f k a0 a1_0 a1_1 a1_2 = some r) :
    Calls Tryd.prog 23 #[.string a0, .agg #[.int .i64 a1_0, .int .i64 a1_1, .int .i64 a1_2]] w fun e w' => e = .returned (.bool r) ∧ Below w.heap.size w w' := by
  have hu27 := Tryd.underlying27
  have HB := Aside0.mk (Below.refl w.heap.size w)
  have H : ((targumref1_isLine.f a0 a1_0 a1_1 a1_2).bind fun t242 => (if t242 = true then (targumref1_Blank.l0 k a0 a1_0 a1_0 a1_1 a1_2) else (some false))) = some r := h
  clear h
  replace H := Option.bind_eq_some_iff.mp H
  obtain ⟨t242, A30, H⟩ := H
  replace H : (if t242 = true then (targumref1_Blank.l0 k a0 a1_0 a1_0 a1_1 a1_2) else (some false)) = some r := H
  have A3 := Aside0.mk A30
  clear A30
  by_cases c4 : t242 = true
  · subst c4
    have H1 : (targumref1_Blank.l0 k a0 a1_0 a1_0 a1_1 a1_2) = some r := by rw [if_pos rfl] at H; exact H
    clear H
    have H := H1
    clear H1
    have H' := Aside0.mk H
    clear H
    go_enter Tryd.func23, Tryd.ntmps23
    go_wp2_with (first | ((with_reducible refine gate_dst (N := 3) rfl ?_); refine box_event ?hg (N := 3) ?hd (cs := #[.int .i64 a1_0, .int .i64 a1_1, .int .i64 a1_2]) (t := 27) ?hr ?_; (case hd => rfl); (case hg => rfl); (case hr => first | (go_simp; done) | (go_simp; rfl)); intro gb241 hg w5 hbox hb; have n0_ := Aside0.mk (below_step (by repeat (first | (with_reducible first | exact HB.out | apply below_alloc | apply pw_below_drewN | apply below_drew1) | exact HB.out)) hb); have n1_ := Aside0.mk (hbox); have n2_ := Aside0.mk ((by rw [hg]; exact (below_size (by repeat (first | (with_reducible first | exact HB.out | apply below_alloc | apply pw_below_drewN | apply below_drew1) | exact HB.out))) : w.heap.size ≤ gb241)); have n3_ := Aside0.mk ((by rw [hg]; exact (below_size (by repeat (first | (with_reducible first | exact HB.out | apply below_alloc | apply pw_below_drewN | apply below_drew1) | exact HB.out))) : w.heap.size ≤ gb241)); clear HB; have HB := n0_; have BK241 := n1_; have GW241 := n2_; have GE241 := n3_; clear n0_ n1_ n2_ n3_; clear hb hbox hg; have hcz6_0 : w5.cell? ⟨gb241, 0, none⟩ = some (.int .i64 a1_0) := (blk_cell BK241.out 0).trans rfl; have hcz6_1 : w5.cell? ⟨gb241, 1, none⟩ = some (.int .i64 a1_1) := (blk_cell BK241.out 1).trans rfl; have hcz6_2 : w5.cell? ⟨gb241, 2, none⟩ = some (.int .i64 a1_2) := (blk_cell BK241.out 2).trans rfl; have hfz6_0 := blk_frozen BK241.out 0; have hfz6_1 := blk_frozen BK241.out 1; have hfz6_2 := blk_frozen BK241.out 2) | ((with_reducible refine gate_callee (f := 34) rfl ?_); refine goesL_ (some 8) rfl rfl Tryd.func34 (by kernel_rfl) rfl #[.string a0, .agg #[.int .i64 a1_0, .int .i64 a1_1, .int .i64 a1_2]] rfl (by (try simp only [List.map_toArray, List.map_cons, List.map_nil]); first | done | rfl | (simp only [List.length_drop, List.length_take]; rfl)) ?_; (with_reducible refine (targumref1_isLine.calls a0 a1_0 a1_1 a1_2 true _ A3.out).mono ?_); rintro e w7 ⟨rfl, hb⟩; refine ⟨_, rfl, ?_⟩; have n0_ := Aside0.mk (blk_below (g := gb241) (o := .cells #[.int .i64 a1_0, .int .i64 a1_1, .int .i64 a1_2] 27 (0, 0)) (by (with_reducible repeat (first | refine blk_drewN ?_ _ | refine blk_drew ?_ | refine blk_alloc ?_ _)); exact BK241.out) hb); have n1_ := Aside0.mk (below_step (by repeat (first | (with_reducible first | exact HB.out | apply below_alloc | apply pw_below_drewN | apply below_drew1 | refine below_set ?_ GE241.out) | exact HB.out)) hb); clear BK241; clear HB; have BK241 := n0_; have HB := n1_; clear n0_ n1_; (try clear hb); (try clear hb2); (try clear hk); (try clear hi); have hcz8_0 : w7.cell? ⟨gb241, 0, none⟩ = some (.int .i64 a1_0) := (blk_cell BK241.out 0).trans rfl; have hcz8_1 : w7.cell? ⟨gb241, 1, none⟩ = some (.int .i64 a1_1) := (blk_cell BK241.out 1).trans rfl; have hcz8_2 : w7.cell? ⟨gb241, 2, none⟩ = some (.int .i64 a1_2) := (blk_cell BK241.out 2).trans rfl; have hfz8_0 := blk_frozen BK241.out 0; have hfz8_1 := blk_frozen BK241.out 1; have hfz8_2 := blk_frozen BK241.out 2))
    go_loopg [5] k (fun kq v5 w' => ∃ (x5_1 : Int), v5 = .int .i64 x5_1 ∧ Aside0 (targumref1_Blank.l0 kq a0 x5_1 a1_0 a1_1 a1_2 = some r) ∧ Aside0 (kq ≤ k) ∧ Aside0 (w'.heap[gb241]? = some (.cells #[.int .i64 a1_0, .int .i64 a1_1, .int .i64 a1_2] 27 (0, 0))) ∧ Aside0 (Below w.heap.size w w'))
    case atStart => exact ⟨(a1_0), (by first | rfl | (simp; done) | (simp [*]; done) | (simp [wrap64]; done)), H', ⟨Nat.le_refl _⟩, ⟨by (with_reducible repeat (first | refine blk_drewN ?_ _ | refine blk_drew ?_ | refine blk_alloc ?_ _)); exact BK241.out⟩, ⟨by repeat (first | (with_reducible first | exact HB.out | apply below_alloc | apply pw_below_drewN | apply below_drew1 | refine below_set ?_ GE241.out) | exact HB.out)⟩⟩
    case round =>
      clear H'
      try clear c2
      try clear p2
      try clear c3
      try clear c4
      try clear hcz6_0
      try clear hcz6_1
      try clear hcz6_2
      try clear hcz8_0
      try clear hcz8_1
      try clear hcz8_2
      try clear hfz6_0
      try clear hfz6_1
      try clear hfz6_2
      try clear hfz8_0
      try clear hfz8_1
      try clear hfz8_2
      obtain ⟨x5_1, rfl, HA, HK1, BK241, HB⟩ := hrel
      cases gk with
      | zero => exact absurd HA.out (by simp [targumref1_Blank.l0])
      | succ k1 =>
        have H := HA.out
        clear HA
        simp only [targumref1_Blank.l0] at H
        by_cases c9 : x5_1 < a1_1
        · rw [if_pos c9] at H
          have c9b0 : decide (x5_1 < a1_1) = true := decide_eq_true c9
          clear c9
          replace H := Option.bind_eq_some_iff.mp H
          obtain ⟨t243, A100, H⟩ := H
          replace H : (if t243 = true then (targumref1_Blank.l0 k1 a0 (wrap64 (x5_1 + 1)) a1_0 a1_1 a1_2) else (some false)) = some r := H
          have A10 := Aside0.mk A100
          clear A100
          by_cases c11 : t243 = true
          · subst c11
            have H1 : (targumref1_Blank.l0 k1 a0 (wrap64 (x5_1 + 1)) a1_0 a1_1 a1_2) = some r := by rw [if_pos rfl] at H; exact H
            clear H
            have H := H1
            clear H1
            have H' := Aside0.mk H
            clear H
            have hcz12_0 : wr.cell? ⟨gb241, 0, none⟩ = some (.int .i64 a1_0) := (blk_cell BK241.out 0).trans rfl
            have hcz12_1 : wr.cell? ⟨gb241, 1, none⟩ = some (.int .i64 a1_1) := (blk_cell BK241.out 1).trans rfl
            have hcz12_2 : wr.cell? ⟨gb241, 2, none⟩ = some (.int .i64 a1_2) := (blk_cell BK241.out 2).trans rfl
            have hfz12_0 := blk_frozen BK241.out 0
            have hfz12_1 := blk_frozen BK241.out 1
            have hfz12_2 := blk_frozen BK241.out 2
            go_wp2_with (first | ((with_reducible refine gate_callee (f := 36) rfl ?_); refine goesL_ (some 20) rfl rfl Tryd.func36 (by kernel_rfl) rfl #[.string a0, .int .i64 x5_1] rfl (by (try simp only [List.map_toArray, List.map_cons, List.map_nil]); first | done | rfl | (simp only [List.length_drop, List.length_take]; rfl)) ?_; (with_reducible refine (targumref1_IsBlank.calls a0 x5_1 true _ A10.out).mono ?_); rintro e w' ⟨rfl, ⟨nd, rfl⟩⟩; refine ⟨_, rfl, ?_⟩))
            go_roundg k1
            case measure => have := HK1.out; omega
            case rel => exact ⟨(wrap64 (x5_1 + 1)), (by first | rfl | (simp; done) | (simp [*]; done) | (simp [wrap64]; done)), H', ⟨by have := HK1.out; omega⟩, ⟨by (with_reducible repeat (first | refine blk_drewN ?_ _ | refine blk_drew ?_ | refine blk_alloc ?_ _)); exact BK241.out⟩, ⟨by repeat (first | (with_reducible first | exact HB.out | apply below_alloc | apply pw_below_drewN | apply below_drew1 | refine below_set ?_ GE241.out) | exact HB.out)⟩⟩
          · replace c11 := Bool.eq_false_iff.mpr c11
            subst c11
            have H1 : (some false) = some r := by rw [if_neg (show ¬ (false = true) by decide)] at H; exact H
            clear H
            have H := H1
            clear H1
            obtain rfl := Option.some.inj H
            have hcz13_0 : wr.cell? ⟨gb241, 0, none⟩ = some (.int .i64 a1_0) := (blk_cell BK241.out 0).trans rfl
            have hcz13_1 : wr.cell? ⟨gb241, 1, none⟩ = some (.int .i64 a1_1) := (blk_cell BK241.out 1).trans rfl
            have hcz13_2 : wr.cell? ⟨gb241, 2, none⟩ = some (.int .i64 a1_2) := (blk_cell BK241.out 2).trans rfl
            have hfz13_0 := blk_frozen BK241.out 0
            have hfz13_1 := blk_frozen BK241.out 1
            have hfz13_2 := blk_frozen BK241.out 2
            go_wp2_with (first | ((with_reducible refine gate_callee (f := 36) rfl ?_); refine goesL_ (some 20) rfl rfl Tryd.func36 (by kernel_rfl) rfl #[.string a0, .int .i64 x5_1] rfl (by (try simp only [List.map_toArray, List.map_cons, List.map_nil]); first | done | rfl | (simp only [List.length_drop, List.length_take]; rfl)) ?_; (with_reducible refine (targumref1_IsBlank.calls a0 x5_1 false _ A10.out).mono ?_); rintro e w' ⟨rfl, ⟨nd, rfl⟩⟩; refine ⟨_, rfl, ?_⟩))
            go_ret
            exact ⟨by first | rfl | (simp [errW_none, errW_some] <;> rfl) | (simp [*, errW_none, errW_some] <;> rfl), by repeat (first | (with_reducible first | exact HB.out | apply below_alloc | apply pw_below_drewN | apply below_drew1 | refine below_set ?_ GE241.out) | exact HB.out)⟩
        · rw [if_neg c9] at H
          have c9b0 : decide (x5_1 < a1_1) = false := decide_eq_false c9
          clear c9
          obtain rfl := Option.some.inj H
          have hcz14_0 : wr.cell? ⟨gb241, 0, none⟩ = some (.int .i64 a1_0) := (blk_cell BK241.out 0).trans rfl
          have hcz14_1 : wr.cell? ⟨gb241, 1, none⟩ = some (.int .i64 a1_1) := (blk_cell BK241.out 1).trans rfl
          have hcz14_2 : wr.cell? ⟨gb241, 2, none⟩ = some (.int .i64 a1_2) := (blk_cell BK241.out 2).trans rfl
          have hfz14_0 := blk_frozen BK241.out 0
          have hfz14_1 := blk_frozen BK241.out 1
          have hfz14_2 := blk_frozen BK241.out 2
          go_wp2
          go_ret
          exact ⟨by first | rfl | (simp [errW_none, errW_some] <;> rfl) | (simp [*, errW_none, errW_some] <;> rfl), by repeat (first | (with_reducible first | exact HB.out | apply below_alloc | apply pw_below_drewN | apply below_drew1 | refine below_set ?_ GE241.out) | exact HB.out)⟩
  · replace c4 := Bool.eq_false_iff.mpr c4
    subst c4
    have H1 : (some false) = some r := by rw [if_neg (show ¬ (false = true) by decide)] at H; exact H
    clear H
    have H := H1
    clear H1
    obtain rfl := Option.some.inj H
    go_enter Tryd.func23, Tryd.ntmps23
    go_wp2_with (first | ((with_reducible refine gate_dst (N := 3) rfl ?_); refine box_event ?hg (N := 3) ?hd (cs := #[.int .i64 a1_0, .int .i64 a1_1, .int .i64 a1_2]) (t := 27) ?hr ?_; (case hd => rfl); (case hg => rfl); (case hr => first | (go_simp; done) | (go_simp; rfl)); intro gb241 hg w15 hbox hb; have n0_ := Aside0.mk (below_step (by repeat (first | (with_reducible first | exact HB.out | apply below_alloc | apply pw_below_drewN | apply below_drew1) | exact HB.out)) hb); have n1_ := Aside0.mk (hbox); have n2_ := Aside0.mk ((by rw [hg]; exact (below_size (by repeat (first | (with_reducible first | exact HB.out | apply below_alloc | apply pw_below_drewN | apply below_drew1) | exact HB.out))) : w.heap.size ≤ gb241)); have n3_ := Aside0.mk ((by rw [hg]; exact (below_size (by repeat (first | (with_reducible first | exact HB.out | apply below_alloc | apply pw_below_drewN | apply below_drew1) | exact HB.out))) : w.heap.size ≤ gb241)); clear HB; have HB := n0_; have BK241 := n1_; have GW241 := n2_; have GE241 := n3_; clear n0_ n1_ n2_ n3_; clear hb hbox hg; have hcz16_0 : w15.cell? ⟨gb241, 0, none⟩ = some (.int .i64 a1_0) := (blk_cell BK241.out 0).trans rfl; have hcz16_1 : w15.cell? ⟨gb241, 1, none⟩ = some (.int .i64 a1_1) := (blk_cell BK241.out 1).trans rfl; have hcz16_2 : w15.cell? ⟨gb241, 2, none⟩ = some (.int .i64 a1_2) := (blk_cell BK241.out 2).trans rfl; have hfz16_0 := blk_frozen BK241.out 0; have hfz16_1 := blk_frozen BK241.out 1; have hfz16_2 := blk_frozen BK241.out 2) | ((with_reducible refine gate_callee (f := 34) rfl ?_); refine goesL_ (some 8) rfl rfl Tryd.func34 (by kernel_rfl) rfl #[.string a0, .agg #[.int .i64 a1_0, .int .i64 a1_1, .int .i64 a1_2]] rfl (by (try simp only [List.map_toArray, List.map_cons, List.map_nil]); first | done | rfl | (simp only [List.length_drop, List.length_take]; rfl)) ?_; (with_reducible refine (targumref1_isLine.calls a0 a1_0 a1_1 a1_2 false _ A3.out).mono ?_); rintro e w17 ⟨rfl, hb⟩; refine ⟨_, rfl, ?_⟩; have n0_ := Aside0.mk (blk_below (g := gb241) (o := .cells #[.int .i64 a1_0, .int .i64 a1_1, .int .i64 a1_2] 27 (0, 0)) (by (with_reducible repeat (first | refine blk_drewN ?_ _ | refine blk_drew ?_ | refine blk_alloc ?_ _)); exact BK241.out) hb); have n1_ := Aside0.mk (below_step (by repeat (first | (with_reducible first | exact HB.out | apply below_alloc | apply pw_below_drewN | apply below_drew1 | refine below_set ?_ GE241.out) | exact HB.out)) hb); clear BK241; clear HB; have BK241 := n0_; have HB := n1_; clear n0_ n1_; (try clear hb); (try clear hb2); (try clear hk); (try clear hi)))
    go_ret
    exact ⟨by first | rfl | (simp [errW_none, errW_some] <;> rfl) | (simp [*, errW_none, errW_some] <;> rfl), by repeat (first | (with_reducible first | exact HB.out | apply below_alloc | apply pw_below_drewN | apply below_drew1 | refine below_set ?_ GE241.out) | exact HB.out)⟩

end Go.Proofs.YtkphlddgfmgogaaDoor.PB
