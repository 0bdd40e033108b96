/- Written by this session's own program (xprint, made over the kit's print): Lean functions with the same answers as the Go functions, and the proofs of that. Not trusted: Lean checks it. -/
import Derived.Test.YtddaggnomcoejaaDoorPRx0
import Derived.Test.YtddaggnomcoejaaDoorPRx4
import Derived.Test.YtddaggnomcoejaaDoorPRx5
import Derived.Test.YtddaggnomcoejaaDoorPRx6
namespace Go.Proofs.YtddaggnomcoejaaDoor.PR
open Go.RowKit Go.Proofs.YtddaggnomcoejaaDoorW.PrintWords Go.Proofs.YtddaggnomcoejaaDoorW.PrintLast Go.Proofs.YtddaggnomcoejaaDoorW.PrintMore
attribute [local go_sem] max2_int min2_int max_two min_two max_three min_three max_four min_four   -- for this text's walks alone
set_option linter.unusedVariables false
set_option linter.unusedSimpArgs false

/-! ### targumref4_Add: function 24 -/
mutual
def targumref4_Add.j0 : Nat → ByteArray → Int → Bool → Option (ByteArray)
  | 0, _, _, _ => none
  | k + 1, x0, x1, x18 => if x18 = true then (some (⟨#[]⟩ : ByteArray)) else (if 0 < (x0.size : Int) then (if (bt x0 0) = 45 then (if 1 ≤ (x0.size : Int) then (targumref4_Add.j1 k (x0.extract 1 x0.size) x1 ((bt x0 0) == 45) (decide (x1 < 0))) else (none)) else (targumref4_Add.j1 k x0 x1 ((bt x0 0) == 45) (decide (x1 < 0)))) else (none))
def targumref4_Add.j1 : Nat → ByteArray → Int → Bool → Bool → Option (ByteArray)
  | 0, _, _, _, _ => none
  | k + 1, x0, x1, x5, x6 => if x6 = true then (targumref4_Add.j2 k x0 (wrap64 (-x1)) x5 x6) else (targumref4_Add.j2 k x0 x1 x5 x6)
def targumref4_Add.j2 : Nat → ByteArray → Int → Bool → Bool → Option (ByteArray)
  | 0, _, _, _, _ => none
  | k + 1, x0, x1, x5, x6 => if (x5 == x6) = true then ((targumref4_mulAdd.f k x0 1 x1).bind fun t179 => ((targumref4_Norm.f k x5 t179).bind fun t180 => (some t180))) else ((targumref4_Text.f k x1).bind fun t181 => ((targumref4_compare.f x0 t181).bind fun t182 => (if t182 < 0 then ((targumref4_less.f k t181 x0).bind fun t183 => ((targumref4_Norm.f k x6 t183).bind fun t184 => (some t184))) else ((targumref4_less.f k x0 t181).bind fun t185 => ((targumref4_Norm.f k x5 t185).bind fun t186 => (some t186))))))
end
def targumref4_Add.f (k : Nat) (a0 : ByteArray) (a1 : Int) : Option (ByteArray) := (targumref4_Good.f k a0).bind fun t178 => (if t178 = true then (if a1 < (-1099511627776) then (targumref4_Add.j0 k a0 a1 true) else (targumref4_Add.j0 k a0 a1 (decide (a1 > 1099511627776)))) else (targumref4_Add.j0 k a0 a1 true))
theorem targumref4_Add.mono_l : ∀ k, (∀ y0 y1 y2, LeO (targumref4_Add.j0 k y0 y1 y2) (targumref4_Add.j0 (k + 1) y0 y1 y2)) ∧ (∀ y0 y1 y2 y3, LeO (targumref4_Add.j1 k y0 y1 y2 y3) (targumref4_Add.j1 (k + 1) y0 y1 y2 y3)) ∧ (∀ y0 y1 y2 y3, LeO (targumref4_Add.j2 k y0 y1 y2 y3) (targumref4_Add.j2 (k + 1) y0 y1 y2 y3))
  | 0 => ⟨fun _ _ _ r h => by simp [targumref4_Add.j0] at h, fun _ _ _ _ r h => by simp [targumref4_Add.j1] at h, fun _ _ _ _ r h => by simp [targumref4_Add.j2] at h⟩
  | k + 1 => by
    obtain ⟨ih0, ih1, ih2⟩ := targumref4_Add.mono_l k
    refine ⟨?_, ?_, ?_⟩
    · intro y0 y1 y2
      unfold targumref4_Add.j0
      repeat' first
      | (with_reducible exact ih0 _ _ _)
      | (with_reducible exact ih1 _ _ _ _)
      | (with_reducible exact ih2 _ _ _ _)
      | (with_reducible exact targumref4_Good.mono _ _)
      | (with_reducible exact targumref4_Norm.mono _ _ _)
      | (with_reducible exact targumref4_Text.mono _ _)
      | (with_reducible exact targumref4_less.mono _ _ _)
      | (with_reducible exact targumref4_mulAdd.mono _ _ _ _)
      | (with_reducible exact LeO.refl _)
      | (with_reducible exact LeO.none _)
      | (with_reducible refine LeO.ite ?_ ?_)
      | (with_reducible refine LeO.bind ?_ (fun _ => ?_))
      | exact ih0 _ _ _
      | exact ih1 _ _ _ _
      | exact ih2 _ _ _ _
      | exact targumref4_Good.mono _ _
      | exact targumref4_Norm.mono _ _ _
      | exact targumref4_Text.mono _ _
      | exact targumref4_less.mono _ _ _
      | exact targumref4_mulAdd.mono _ _ _ _
      | exact LeO.none _
      | refine LeO.ite ?_ ?_
      | refine LeO.bind ?_ (fun _ => ?_)
    · intro y0 y1 y2 y3
      unfold targumref4_Add.j1
      repeat' first
      | (with_reducible exact ih0 _ _ _)
      | (with_reducible exact ih1 _ _ _ _)
      | (with_reducible exact ih2 _ _ _ _)
      | (with_reducible exact targumref4_Good.mono _ _)
      | (with_reducible exact targumref4_Norm.mono _ _ _)
      | (with_reducible exact targumref4_Text.mono _ _)
      | (with_reducible exact targumref4_less.mono _ _ _)
      | (with_reducible exact targumref4_mulAdd.mono _ _ _ _)
      | (with_reducible exact LeO.refl _)
      | (with_reducible exact LeO.none _)
      | (with_reducible refine LeO.ite ?_ ?_)
      | (with_reducible refine LeO.bind ?_ (fun _ => ?_))
      | exact ih0 _ _ _
      | exact ih1 _ _ _ _
      | exact ih2 _ _ _ _
      | exact targumref4_Good.mono _ _
      | exact targumref4_Norm.mono _ _ _
      | exact targumref4_Text.mono _ _
      | exact targumref4_less.mono _ _ _
      | exact targumref4_mulAdd.mono _ _ _ _
      | exact LeO.none _
      | refine LeO.ite ?_ ?_
      | refine LeO.bind ?_ (fun _ => ?_)
    · intro y0 y1 y2 y3
      unfold targumref4_Add.j2
      repeat' first
      | (with_reducible exact ih0 _ _ _)
      | (with_reducible exact ih1 _ _ _ _)
      | (with_reducible exact ih2 _ _ _ _)
      | (with_reducible exact targumref4_Good.mono _ _)
      | (with_reducible exact targumref4_Norm.mono _ _ _)
      | (with_reducible exact targumref4_Text.mono _ _)
      | (with_reducible exact targumref4_less.mono _ _ _)
      | (with_reducible exact targumref4_mulAdd.mono _ _ _ _)
      | (with_reducible exact LeO.refl _)
      | (with_reducible exact LeO.none _)
      | (with_reducible refine LeO.ite ?_ ?_)
      | (with_reducible refine LeO.bind ?_ (fun _ => ?_))
      | exact ih0 _ _ _
      | exact ih1 _ _ _ _
      | exact ih2 _ _ _ _
      | exact targumref4_Good.mono _ _
      | exact targumref4_Norm.mono _ _ _
      | exact targumref4_Text.mono _ _
      | exact targumref4_less.mono _ _ _
      | exact targumref4_mulAdd.mono _ _ _ _
      | exact LeO.none _
      | refine LeO.ite ?_ ?_
      | refine LeO.bind ?_ (fun _ => ?_)
theorem targumref4_Add.mono : ∀ a0 a1 k, LeO (targumref4_Add.f k a0 a1) (targumref4_Add.f (k + 1) a0 a1) := by
  intro a0 a1 k
  obtain ⟨ih0, ih1, ih2⟩ := targumref4_Add.mono_l k
  unfold targumref4_Add.f
  repeat' first
      | (with_reducible exact ih0 _ _ _)
      | (with_reducible exact ih1 _ _ _ _)
      | (with_reducible exact ih2 _ _ _ _)
      | (with_reducible exact targumref4_Good.mono _ _)
      | (with_reducible exact targumref4_Norm.mono _ _ _)
      | (with_reducible exact targumref4_Text.mono _ _)
      | (with_reducible exact targumref4_less.mono _ _ _)
      | (with_reducible exact targumref4_mulAdd.mono _ _ _ _)
      | (with_reducible exact LeO.refl _)
      | (with_reducible exact LeO.none _)
      | (with_reducible refine LeO.ite ?_ ?_)
      | (with_reducible refine LeO.bind ?_ (fun _ => ?_))
      | exact ih0 _ _ _
      | exact ih1 _ _ _ _
      | exact ih2 _ _ _ _
      | exact targumref4_Good.mono _ _
      | exact targumref4_Norm.mono _ _ _
      | exact targumref4_Text.mono _ _
      | exact targumref4_less.mono _ _ _
      | exact targumref4_mulAdd.mono _ _ _ _
      | exact LeO.none _
      | refine LeO.ite ?_ ?_
      | refine LeO.bind ?_ (fun _ => ?_)
set_option maxHeartbeats 8000000 in
set_option maxRecDepth 100000 in
theorem targumref4_Add.calls (k : Nat) (a0 : ByteArray) (a1 : Int) (r : ByteArray) (w : World) (h : targumref4_Add.f k a0 a1 = some r) :
    Calls Tryd.prog 24 #[.string a0, .int .i64 a1] w fun e w' => e = .returned (.string r) ∧ Below w.heap.size w w' := by
  have HB := Aside0.mk (Below.refl w.heap.size w)
  have H : ((targumref4_Good.f k a0).bind fun t178 => (if t178 = true then (if a1 < (-1099511627776) then (targumref4_Add.j0 k a0 a1 true) else (targumref4_Add.j0 k a0 a1 (decide (a1 > 1099511627776)))) else (targumref4_Add.j0 k a0 a1 true))) = some r := h
  clear h
  have HC3 := Aside0.mk H
  clear H
  go_enter Tryd.func24, Tryd.ntmps24
  go_upto_region 1 with (fail)
  go_cut [18] (fun v18 wc => ∃ (kq : Nat) (x18_2 : Bool), v18 = .bool x18_2 ∧ Aside0 (targumref4_Add.j0 kq a0 a1 x18_2 = some r) ∧ Aside0 (kq ≤ k) ∧ Aside0 (Below w.heap.size w wc))
  case first =>
    have H := HC3.out
    clear HC3
    replace H := Option.bind_eq_some_iff.mp H
    obtain ⟨t178, A40, H⟩ := H
    replace H : (if t178 = true then (if a1 < (-1099511627776) then (targumref4_Add.j0 k a0 a1 true) else (targumref4_Add.j0 k a0 a1 (decide (a1 > 1099511627776)))) else (targumref4_Add.j0 k a0 a1 true)) = some r := H
    have A4 := Aside0.mk A40
    clear A40
    by_cases c5 : t178 = true
    · subst c5
      have H1 : (if a1 < (-1099511627776) then (targumref4_Add.j0 k a0 a1 true) else (targumref4_Add.j0 k a0 a1 (decide (a1 > 1099511627776)))) = some r := by rw [if_pos rfl] at H; exact H
      clear H
      have H := H1
      clear H1
      by_cases c6 : a1 < (-1099511627776)
      · rw [if_pos c6] at H
        have c6b0 : decide (a1 < (-1099511627776)) = true := decide_eq_true c6
        clear c6
        (first | rw [c6b0] | (simp only [i64_w, i32_w]; rw [c6b0]) | skip)
        have H' := Aside0.mk H
        clear H
        go_wp2_with (first | ((with_reducible refine gate_callee (f := 17) rfl ?_); refine goesL_ (some 9) rfl rfl Tryd.func17 (by kernel_rfl) rfl #[.string a0] rfl (by (try simp only [List.map_toArray, List.map_cons, List.map_nil]); first | done | rfl | (simp only [List.length_drop, List.length_take]; rfl)) ?_; (with_reducible refine (targumref4_Good.calls k a0 true _ A4.out).mono ?_); rintro e w' ⟨rfl, ⟨nd, rfl⟩⟩; refine ⟨_, rfl, ?_⟩))
        go_meet
        case rel => exact ⟨_, (true), (by first | rfl | (simp; done) | (simp [*]; done) | (simp [wrap64]; done)), H', ⟨by first | omega | exact Nat.le_refl _⟩, ⟨by repeat (first | (with_reducible first | exact HB.out | apply below_alloc | apply pw_below_drewN | apply below_drew1) | exact HB.out)⟩⟩
      · rw [if_neg c6] at H
        have c6b0 : decide (a1 < (-1099511627776)) = false := decide_eq_false c6
        clear c6
        (first | rw [c6b0] | (simp only [i64_w, i32_w]; rw [c6b0]) | skip)
        have H' := Aside0.mk H
        clear H
        go_wp2_with (first | ((with_reducible refine gate_callee (f := 17) rfl ?_); refine goesL_ (some 9) rfl rfl Tryd.func17 (by kernel_rfl) rfl #[.string a0] rfl (by (try simp only [List.map_toArray, List.map_cons, List.map_nil]); first | done | rfl | (simp only [List.length_drop, List.length_take]; rfl)) ?_; (with_reducible refine (targumref4_Good.calls k a0 true _ A4.out).mono ?_); rintro e w' ⟨rfl, ⟨nd, rfl⟩⟩; refine ⟨_, rfl, ?_⟩))
        go_meet
        case rel => exact ⟨_, (decide (a1 > 1099511627776)), (by first | rfl | (simp; done) | (simp [*]; done) | (simp [wrap64]; done)), H', ⟨by first | omega | exact Nat.le_refl _⟩, ⟨by repeat (first | (with_reducible first | exact HB.out | apply below_alloc | apply pw_below_drewN | apply below_drew1) | exact HB.out)⟩⟩
    · replace c5 := Bool.eq_false_iff.mpr c5
      subst c5
      have H1 : (targumref4_Add.j0 k a0 a1 true) = some r := by rw [if_neg (show ¬ (false = true) by decide)] at H; exact H
      clear H
      have H := H1
      clear H1
      have H' := Aside0.mk H
      clear H
      go_wp2_with (first | ((with_reducible refine gate_callee (f := 17) rfl ?_); refine goesL_ (some 9) rfl rfl Tryd.func17 (by kernel_rfl) rfl #[.string a0] rfl (by (try simp only [List.map_toArray, List.map_cons, List.map_nil]); first | done | rfl | (simp only [List.length_drop, List.length_take]; rfl)) ?_; (with_reducible refine (targumref4_Good.calls k a0 false _ A4.out).mono ?_); rintro e w' ⟨rfl, ⟨nd, rfl⟩⟩; refine ⟨_, rfl, ?_⟩))
      go_meet
      case rel => exact ⟨_, (true), (by first | rfl | (simp; done) | (simp [*]; done) | (simp [wrap64]; done)), H', ⟨by first | omega | exact Nat.le_refl _⟩, ⟨by repeat (first | (with_reducible first | exact HB.out | apply below_alloc | apply pw_below_drewN | apply below_drew1) | exact HB.out)⟩⟩
  case rest =>
    clear HC3
    try clear c1
    try clear c2
    try clear p2
    try clear c5
    try clear c6
    try clear c6b0
    obtain ⟨kq, x18_2, rfl, HA, HJ2, HB⟩ := hcut
    cases kq with
    | zero => exact absurd HA.out (by simp [targumref4_Add.j0])
    | succ kj2 =>
      have H := HA.out
      clear HA
      simp only [targumref4_Add.j0] at H
      by_cases c7 : x18_2 = true
      · subst c7
        have H1 : (some (⟨#[]⟩ : ByteArray)) = some r := by rw [if_pos rfl] at H; exact H
        clear H
        have H := H1
        clear H1
        obtain rfl := Option.some.inj H
        go_wp2
        go_ret
        exact ⟨by first | rfl | (simp [errW_none, errW_some] <;> rfl) | (simp [*, errW_none, errW_some] <;> rfl), by repeat (first | (with_reducible first | exact HB.out | apply below_alloc | apply pw_below_drewN | apply below_drew1) | exact HB.out)⟩
      · replace c7 := Bool.eq_false_iff.mpr c7
        subst c7
        have H1 : (if 0 < (a0.size : Int) then (if (bt a0 0) = 45 then (if 1 ≤ (a0.size : Int) then (targumref4_Add.j1 kj2 (a0.extract 1 a0.size) a1 ((bt a0 0) == 45) (decide (a1 < 0))) else (none)) else (targumref4_Add.j1 kj2 a0 a1 ((bt a0 0) == 45) (decide (a1 < 0)))) else (none)) = some r := by rw [if_neg (show ¬ (false = true) by decide)] at H; exact H
        clear H
        have H := H1
        clear H1
        by_cases c8 : 0 < (a0.size : Int)
        · rw [if_pos c8] at H
          have c8b0 : decide (0 < (a0.size : Int)) = true := decide_eq_true c8
          have c8b1 : decide (0 < a0.size) = true := decide_eq_true (by omega)
          clear c8
          have HC10 := Aside0.mk H
          clear H
          have p9 : 0 ≤ (0 : Int) := (by omega)
          have q9 : 0 < a0.size := (by have : (0 : Int) < (a0.size : Int) := of_decide_eq_true (by first | (with_reducible assumption) | assumption); omega)
          have hx9 : ∀ h : 0 < a0.size, ((a0[0]'h).toNat : Int) = bt a0 0 := bt_at a0 0
          clear p9
          have qi9 : (0 < (a0.size : Int)) = True := eq_true (of_decide_eq_true (by first | (with_reducible assumption) | assumption))
          replace q9 := eq_true q9
          go_upto_if 24 with (fail)
          go_cut [0, 5, 6] (fun v0 v5 v6 wc => ∃ (kq : Nat) (x0_9 : ByteArray) (x5_9 : Bool) (x6_9 : Bool), v0 = .string x0_9 ∧ v5 = .bool x5_9 ∧ v6 = .bool x6_9 ∧ Aside0 (targumref4_Add.j1 kq x0_9 a1 x5_9 x6_9 = some r) ∧ Aside0 (kq ≤ kj2) ∧ Aside0 (Below w.heap.size w wc))
          case first =>
            have H := HC10.out
            clear HC10
            by_cases c11 : (bt a0 0) = 45
            · rw [if_pos c11] at H
              have c11b0 : ((bt a0 0) == 45) = true := beq_iff_eq.mpr c11
              have c11b1 : ((bt a0 0) != 45) = false := bne_eq_false_iff_eq.mpr c11
              clear c11
              (first | rw [c11b0] | (simp only [i64_w, i32_w]; rw [c11b0]) | skip)
              by_cases c12 : 1 ≤ (a0.size : Int)
              · rw [if_pos c12] at H
                have c12b0 := eq_true c12
                have c12b1 : decide (1 ≤ (a0.size : Int)) = true := decide_eq_true c12
                clear c12
                have H' := Aside0.mk H
                clear H
                go_wp2
                go_meet
                case rel => exact ⟨_, (a0.extract 1 a0.size), (((bt a0 0) == 45)), (decide (a1 < 0)), (by first | rfl | (simp; done) | (simp [*]; done) | (simp [wrap64]; done)), (by first | rfl | (simp; done) | (simp [*]; done) | (simp [wrap64]; done)), (by first | rfl | (simp; done) | (simp [*]; done) | (simp [wrap64]; done)), H', ⟨by have := HJ2.out; first | omega | exact Nat.le_refl _⟩, ⟨by repeat (first | (with_reducible first | exact HB.out | apply below_alloc | apply pw_below_drewN | apply below_drew1) | exact HB.out)⟩⟩
              · rw [if_neg c12] at H
                exact absurd H (by simp)
            · rw [if_neg c11] at H
              have c11b0 : ((bt a0 0) == 45) = false := beq_eq_false_iff_ne.mpr c11
              have c11b1 : ((bt a0 0) != 45) = true := bne_iff_ne.mpr c11
              (first | rw [c11b0] | (simp only [i64_w, i32_w]; rw [c11b0]) | skip)
              have H' := Aside0.mk H
              clear H
              go_wp2
              go_meet
              case rel => exact ⟨_, (a0), (((bt a0 0) == 45)), (decide (a1 < 0)), (by first | rfl | (simp; done) | (simp [*]; done) | (simp [wrap64]; done)), (by first | rfl | (simp; done) | (simp [*]; done) | (simp [wrap64]; done)), (by first | rfl | (simp; done) | (simp [*]; done) | (simp [wrap64]; done)), H', ⟨by have := HJ2.out; first | omega | exact Nat.le_refl _⟩, ⟨by repeat (first | (with_reducible first | exact HB.out | apply below_alloc | apply pw_below_drewN | apply below_drew1) | exact HB.out)⟩⟩
          case rest =>
            clear HC10
            try clear c1
            try clear c2
            try clear p2
            try clear c5
            try clear c6
            try clear c6b0
            try clear c7
            try clear c8
            try clear c8b0
            try clear c8b1
            try clear p9
            try clear q9
            try clear hx9
            try clear qi9
            try clear c11
            try clear c11b0
            try clear c11b1
            try clear c12
            try clear c12b0
            try clear c12b1
            try clear p2
            try clear p9
            try clear q9
            obtain ⟨kq, x0_9, x5_9, x6_9, rfl, rfl, rfl, HA, HJ9, HB⟩ := hcut
            cases kq with
            | zero => exact absurd HA.out (by simp [targumref4_Add.j1])
            | succ kj9 =>
              have H := HA.out
              clear HA
              simp only [targumref4_Add.j1] at H
              have HC13 := Aside0.mk H
              clear H
              go_upto_if 27 with (fail)
              go_cut [1] (fun v1 wc => ∃ (kq : Nat) (x1_12 : Int), v1 = .int .i64 x1_12 ∧ Aside0 (targumref4_Add.j2 kq x0_9 x1_12 x5_9 x6_9 = some r) ∧ Aside0 (kq ≤ kj9) ∧ Aside0 (Below w.heap.size w wc))
              case first =>
                have H := HC13.out
                clear HC13
                by_cases c14 : x6_9 = true
                · subst c14
                  have H1 : (targumref4_Add.j2 kj9 x0_9 (wrap64 (-a1)) x5_9 true) = some r := by rw [if_pos rfl] at H; exact H
                  clear H
                  have H := H1
                  clear H1
                  have H' := Aside0.mk H
                  clear H
                  go_wp2
                  go_meet
                  case rel => exact ⟨_, (wrap64 (-a1)), (by first | rfl | (simp; done) | (simp [*]; done) | (simp [wrap64]; done)), H', ⟨by have := HJ2.out; have := HJ9.out; first | omega | exact Nat.le_refl _⟩, ⟨by repeat (first | (with_reducible first | exact HB.out | apply below_alloc | apply pw_below_drewN | apply below_drew1) | exact HB.out)⟩⟩
                · replace c14 := Bool.eq_false_iff.mpr c14
                  subst c14
                  have H1 : (targumref4_Add.j2 kj9 x0_9 a1 x5_9 false) = some r := by rw [if_neg (show ¬ (false = true) by decide)] at H; exact H
                  clear H
                  have H := H1
                  clear H1
                  have H' := Aside0.mk H
                  clear H
                  go_wp2
                  go_meet
                  case rel => exact ⟨_, (a1), (by first | rfl | (simp; done) | (simp [*]; done) | (simp [wrap64]; done)), H', ⟨by have := HJ2.out; have := HJ9.out; first | omega | exact Nat.le_refl _⟩, ⟨by repeat (first | (with_reducible first | exact HB.out | apply below_alloc | apply pw_below_drewN | apply below_drew1) | exact HB.out)⟩⟩
              case rest =>
                clear HC13
                try clear c1
                try clear c2
                try clear p2
                try clear c5
                try clear c6
                try clear c6b0
                try clear p6
                try clear c7
                try clear c8
                try clear c8b0
                try clear c8b1
                try clear p9
                try clear q9
                try clear hx9
                try clear qi9
                try clear c11
                try clear c11b0
                try clear c11b1
                try clear c12
                try clear c12b0
                try clear c12b1
                try clear c14
                try clear p2
                try clear p9
                try clear q9
                obtain ⟨kq, x1_12, rfl, HA, HJ12, HB⟩ := hcut
                cases kq with
                | zero => exact absurd HA.out (by simp [targumref4_Add.j2])
                | succ kj12 =>
                  have H := HA.out
                  clear HA
                  simp only [targumref4_Add.j2] at H
                  by_cases c15 : (x5_9 == x6_9) = true
                  · rw [if_pos c15] at H
                    have c15b0 : (x5_9 == x6_9) = true := c15
                    (try (have c15b1 : decide (x5_9 = x6_9) = true := by simpa using c15))
                    (try (have c15b2 : (x5_9 == x6_9) = true := by simpa using c15))
                    clear c15
                    replace H := Option.bind_eq_some_iff.mp H
                    obtain ⟨t179, A160, H⟩ := H
                    replace H : ((targumref4_Norm.f kj12 x5_9 t179).bind fun t180 => (some t180)) = some r := H
                    have A16 := Aside0.mk A160
                    clear A160
                    replace H := Option.bind_eq_some_iff.mp H
                    obtain ⟨t180, A170, H⟩ := H
                    replace H : (some t180) = some r := H
                    have A17 := Aside0.mk A170
                    clear A170
                    obtain rfl := Option.some.inj H
                    go_wp2_with (first | ((with_reducible refine gate_callee (f := 46) rfl ?_); refine goesL_ (some 36) rfl rfl Tryd.func46 (by kernel_rfl) rfl #[.string x0_9, .int .i64 1, .int .i64 x1_12] rfl (by (try simp only [List.map_toArray, List.map_cons, List.map_nil]); first | done | rfl | (simp only [List.length_drop, List.length_take]; rfl)) ?_; (with_reducible refine (targumref4_mulAdd.calls kj12 x0_9 1 x1_12 t179 _ A16.out).mono ?_); rintro e w18 ⟨rfl, hb⟩; refine ⟨_, rfl, ?_⟩; have n0_ := Aside0.mk (below_step (by repeat (first | (with_reducible first | exact HB.out | apply below_alloc | apply pw_below_drewN | apply below_drew1) | exact HB.out)) hb); clear HB; have HB := n0_; clear n0_; (try clear hb); (try clear hb2); (try clear hk); (try clear hi)) | ((with_reducible refine gate_callee (f := 15) rfl ?_); refine goesL_ (some 37) rfl rfl Tryd.func15 (by kernel_rfl) rfl #[.bool x5_9, .string t179] rfl (by (try simp only [List.map_toArray, List.map_cons, List.map_nil]); first | done | rfl | (simp only [List.length_drop, List.length_take]; rfl)) ?_; (with_reducible refine (targumref4_Norm.calls kj12 x5_9 t179 t180 _ A17.out).mono ?_); rintro e w' ⟨rfl, ⟨nd, rfl⟩⟩; refine ⟨_, rfl, ?_⟩))
                    go_ret
                    exact ⟨by first | rfl | (simp [errW_none, errW_some] <;> rfl) | (simp [*, errW_none, errW_some] <;> rfl), by repeat (first | (with_reducible first | exact HB.out | apply below_alloc | apply pw_below_drewN | apply below_drew1) | exact HB.out)⟩
                  · rw [if_neg c15] at H
                    have c15b0 : (x5_9 == x6_9) = false := by simpa using c15
                    (try (have c15b1 : decide (x5_9 = x6_9) = false := by simpa using c15))
                    (try (have c15b2 : (x5_9 == x6_9) = false := by simpa using c15))
                    (try (have c15b3 : ¬ (x5_9 = x6_9) := by simpa using c15))
                    clear c15
                    replace H := Option.bind_eq_some_iff.mp H
                    obtain ⟨t181, A190, H⟩ := H
                    replace H : ((targumref4_compare.f x0_9 t181).bind fun t182 => (if t182 < 0 then ((targumref4_less.f kj12 t181 x0_9).bind fun t183 => ((targumref4_Norm.f kj12 x6_9 t183).bind fun t184 => (some t184))) else ((targumref4_less.f kj12 x0_9 t181).bind fun t185 => ((targumref4_Norm.f kj12 x5_9 t185).bind fun t186 => (some t186))))) = some r := H
                    have A19 := Aside0.mk A190
                    clear A190
                    replace H := Option.bind_eq_some_iff.mp H
                    obtain ⟨t182, A200, H⟩ := H
                    replace H : (if t182 < 0 then ((targumref4_less.f kj12 t181 x0_9).bind fun t183 => ((targumref4_Norm.f kj12 x6_9 t183).bind fun t184 => (some t184))) else ((targumref4_less.f kj12 x0_9 t181).bind fun t185 => ((targumref4_Norm.f kj12 x5_9 t185).bind fun t186 => (some t186)))) = some r := H
                    have A20 := Aside0.mk A200
                    clear A200
                    by_cases c21 : t182 < 0
                    · rw [if_pos c21] at H
                      have c21b0 : decide (t182 < 0) = true := decide_eq_true c21
                      clear c21
                      replace H := Option.bind_eq_some_iff.mp H
                      obtain ⟨t183, A220, H⟩ := H
                      replace H : ((targumref4_Norm.f kj12 x6_9 t183).bind fun t184 => (some t184)) = some r := H
                      have A22 := Aside0.mk A220
                      clear A220
                      replace H := Option.bind_eq_some_iff.mp H
                      obtain ⟨t184, A230, H⟩ := H
                      replace H : (some t184) = some r := H
                      have A23 := Aside0.mk A230
                      clear A230
                      obtain rfl := Option.some.inj H
                      go_wp2_with (first | ((with_reducible refine gate_callee (f := 51) rfl ?_); refine goesL_ (some 39) rfl rfl Tryd.func51 (by kernel_rfl) rfl #[.int .i64 x1_12] rfl (by (try simp only [List.map_toArray, List.map_cons, List.map_nil]); first | done | rfl | (simp only [List.length_drop, List.length_take]; rfl)) ?_; (with_reducible refine (targumref4_Text.calls kj12 x1_12 t181 _ A19.out).mono ?_); rintro e w24 ⟨rfl, hb⟩; refine ⟨_, rfl, ?_⟩; have n0_ := Aside0.mk (below_step (by repeat (first | (with_reducible first | exact HB.out | apply below_alloc | apply pw_below_drewN | apply below_drew1) | exact HB.out)) hb); clear HB; have HB := n0_; clear n0_; (try clear hb); (try clear hb2); (try clear hk); (try clear hi)) | ((with_reducible refine gate_callee (f := 52) rfl ?_); refine goesL_ (some 42) rfl rfl Tryd.func52 (by kernel_rfl) rfl #[.string x0_9, .string t181] rfl (by (try simp only [List.map_toArray, List.map_cons, List.map_nil]); first | done | rfl | (simp only [List.length_drop, List.length_take]; rfl)) ?_; (with_reducible refine (targumref4_compare.calls x0_9 t181 t182 _ A20.out).mono ?_); rintro e w' ⟨rfl, ⟨nd, rfl⟩⟩; refine ⟨_, rfl, ?_⟩) | ((with_reducible refine gate_callee (f := 53) rfl ?_); refine goesL_ (some 47) rfl rfl Tryd.func53 (by kernel_rfl) rfl #[.string t181, .string x0_9] rfl (by (try simp only [List.map_toArray, List.map_cons, List.map_nil]); first | done | rfl | (simp only [List.length_drop, List.length_take]; rfl)) ?_; (with_reducible refine (targumref4_less.calls kj12 t181 x0_9 t183 _ A22.out).mono ?_); rintro e w25 ⟨rfl, hb⟩; refine ⟨_, rfl, ?_⟩; have n0_ := Aside0.mk (below_step (by repeat (first | (with_reducible first | exact HB.out | apply below_alloc | apply pw_below_drewN | apply below_drew1) | exact HB.out)) hb); clear HB; have HB := n0_; clear n0_; (try clear hb); (try clear hb2); (try clear hk); (try clear hi)) | ((with_reducible refine gate_callee (f := 15) rfl ?_); refine goesL_ (some 48) rfl rfl Tryd.func15 (by kernel_rfl) rfl #[.bool x6_9, .string t183] rfl (by (try simp only [List.map_toArray, List.map_cons, List.map_nil]); first | done | rfl | (simp only [List.length_drop, List.length_take]; rfl)) ?_; (with_reducible refine (targumref4_Norm.calls kj12 x6_9 t183 t184 _ A23.out).mono ?_); rintro e w' ⟨rfl, ⟨nd, rfl⟩⟩; refine ⟨_, rfl, ?_⟩))
                      go_ret
                      exact ⟨by first | rfl | (simp [errW_none, errW_some] <;> rfl) | (simp [*, errW_none, errW_some] <;> rfl), by repeat (first | (with_reducible first | exact HB.out | apply below_alloc | apply pw_below_drewN | apply below_drew1) | exact HB.out)⟩
                    · rw [if_neg c21] at H
                      have c21b0 : decide (t182 < 0) = false := decide_eq_false c21
                      clear c21
                      replace H := Option.bind_eq_some_iff.mp H
                      obtain ⟨t185, A260, H⟩ := H
                      replace H : ((targumref4_Norm.f kj12 x5_9 t185).bind fun t186 => (some t186)) = some r := H
                      have A26 := Aside0.mk A260
                      clear A260
                      replace H := Option.bind_eq_some_iff.mp H
                      obtain ⟨t186, A270, H⟩ := H
                      replace H : (some t186) = some r := H
                      have A27 := Aside0.mk A270
                      clear A270
                      obtain rfl := Option.some.inj H
                      go_wp2_with (first | ((with_reducible refine gate_callee (f := 51) rfl ?_); refine goesL_ (some 39) rfl rfl Tryd.func51 (by kernel_rfl) rfl #[.int .i64 x1_12] rfl (by (try simp only [List.map_toArray, List.map_cons, List.map_nil]); first | done | rfl | (simp only [List.length_drop, List.length_take]; rfl)) ?_; (with_reducible refine (targumref4_Text.calls kj12 x1_12 t181 _ A19.out).mono ?_); rintro e w28 ⟨rfl, hb⟩; refine ⟨_, rfl, ?_⟩; have n0_ := Aside0.mk (below_step (by repeat (first | (with_reducible first | exact HB.out | apply below_alloc | apply pw_below_drewN | apply below_drew1) | exact HB.out)) hb); clear HB; have HB := n0_; clear n0_; (try clear hb); (try clear hb2); (try clear hk); (try clear hi)) | ((with_reducible refine gate_callee (f := 52) rfl ?_); refine goesL_ (some 42) rfl rfl Tryd.func52 (by kernel_rfl) rfl #[.string x0_9, .string t181] rfl (by (try simp only [List.map_toArray, List.map_cons, List.map_nil]); first | done | rfl | (simp only [List.length_drop, List.length_take]; rfl)) ?_; (with_reducible refine (targumref4_compare.calls x0_9 t181 t182 _ A20.out).mono ?_); rintro e w' ⟨rfl, ⟨nd, rfl⟩⟩; refine ⟨_, rfl, ?_⟩) | ((with_reducible refine gate_callee (f := 53) rfl ?_); refine goesL_ (some 52) rfl rfl Tryd.func53 (by kernel_rfl) rfl #[.string x0_9, .string t181] rfl (by (try simp only [List.map_toArray, List.map_cons, List.map_nil]); first | done | rfl | (simp only [List.length_drop, List.length_take]; rfl)) ?_; (with_reducible refine (targumref4_less.calls kj12 x0_9 t181 t185 _ A26.out).mono ?_); rintro e w29 ⟨rfl, hb⟩; refine ⟨_, rfl, ?_⟩; have n0_ := Aside0.mk (below_step (by repeat (first | (with_reducible first | exact HB.out | apply below_alloc | apply pw_below_drewN | apply below_drew1) | exact HB.out)) hb); clear HB; have HB := n0_; clear n0_; (try clear hb); (try clear hb2); (try clear hk); (try clear hi)) | ((with_reducible refine gate_callee (f := 15) rfl ?_); refine goesL_ (some 53) rfl rfl Tryd.func15 (by kernel_rfl) rfl #[.bool x5_9, .string t185] rfl (by (try simp only [List.map_toArray, List.map_cons, List.map_nil]); first | done | rfl | (simp only [List.length_drop, List.length_take]; rfl)) ?_; (with_reducible refine (targumref4_Norm.calls kj12 x5_9 t185 t186 _ A27.out).mono ?_); rintro e w' ⟨rfl, ⟨nd, rfl⟩⟩; refine ⟨_, rfl, ?_⟩))
                      go_ret
                      exact ⟨by first | rfl | (simp [errW_none, errW_some] <;> rfl) | (simp [*, errW_none, errW_some] <;> rfl), by repeat (first | (with_reducible first | exact HB.out | apply below_alloc | apply pw_below_drewN | apply below_drew1) | exact HB.out)⟩
        · rw [if_neg c8] at H
          exact absurd H (by simp)

/-! ### targumref4_Compare: function 26 -/
mutual
def targumref4_Compare.j0 : Nat → ByteArray → ByteArray → Bool → Option (Int)
  | 0, _, _, _ => none
  | k + 1, x0, x1, x14 => if x14 = true then (some 0) else (if 0 < (x0.size : Int) then (if 0 < (x1.size : Int) then (if (bt x0 0) = 45 then (targumref4_Compare.j1 k x0 x1 ((bt x0 0) == 45) ((bt x1 0) == 45) (!((bt x1 0) == 45))) else (targumref4_Compare.j1 k x0 x1 ((bt x0 0) == 45) ((bt x1 0) == 45) false)) else (none)) else (none))
def targumref4_Compare.j1 : Nat → ByteArray → ByteArray → Bool → Bool → Bool → Option (Int)
  | 0, _, _, _, _, _ => none
  | k + 1, x0, x1, x5, x6, x21 => if x21 = true then (some (-1)) else (if x6 = true then (targumref4_Compare.j2 k x0 x1 x5 (!x5)) else (targumref4_Compare.j2 k x0 x1 x5 false))
def targumref4_Compare.j2 : Nat → ByteArray → ByteArray → Bool → Bool → Option (Int)
  | 0, _, _, _, _ => none
  | k + 1, x0, x1, x5, x27 => if x27 = true then (some 1) else (if x5 = true then (if 1 ≤ (x1.size : Int) then (if 1 ≤ (x0.size : Int) then ((targumref4_compare.f (x1.extract 1 x1.size) (x0.extract 1 x0.size)).bind fun t189 => (some t189)) else (none)) else (none)) else ((targumref4_compare.f x0 x1).bind fun t190 => (some t190)))
end
def targumref4_Compare.f (k : Nat) (a0 : ByteArray) (a1 : ByteArray) : Option (Int) := (targumref4_Good.f k a0).bind fun t187 => (if t187 = true then ((targumref4_Good.f k a1).bind fun t188 => (targumref4_Compare.j0 k a0 a1 (!t188))) else (targumref4_Compare.j0 k a0 a1 true))
theorem targumref4_Compare.mono_l : ∀ k, (∀ y0 y1 y2, LeO (targumref4_Compare.j0 k y0 y1 y2) (targumref4_Compare.j0 (k + 1) y0 y1 y2)) ∧ (∀ y0 y1 y2 y3 y4, LeO (targumref4_Compare.j1 k y0 y1 y2 y3 y4) (targumref4_Compare.j1 (k + 1) y0 y1 y2 y3 y4)) ∧ (∀ y0 y1 y2 y3, LeO (targumref4_Compare.j2 k y0 y1 y2 y3) (targumref4_Compare.j2 (k + 1) y0 y1 y2 y3))
  | 0 => ⟨fun _ _ _ r h => by simp [targumref4_Compare.j0] at h, fun _ _ _ _ _ r h => by simp [targumref4_Compare.j1] at h, fun _ _ _ _ r h => by simp [targumref4_Compare.j2] at h⟩
  | k + 1 => by
    obtain ⟨ih0, ih1, ih2⟩ := targumref4_Compare.mono_l k
    refine ⟨?_, ?_, ?_⟩
    · intro y0 y1 y2
      unfold targumref4_Compare.j0
      repeat' first
      | (with_reducible exact ih0 _ _ _)
      | (with_reducible exact ih1 _ _ _ _ _)
      | (with_reducible exact ih2 _ _ _ _)
      | (with_reducible exact targumref4_Good.mono _ _)
      | (with_reducible exact LeO.refl _)
      | (with_reducible exact LeO.none _)
      | (with_reducible refine LeO.ite ?_ ?_)
      | (with_reducible refine LeO.bind ?_ (fun _ => ?_))
      | exact ih0 _ _ _
      | exact ih1 _ _ _ _ _
      | exact ih2 _ _ _ _
      | exact targumref4_Good.mono _ _
      | exact LeO.none _
      | refine LeO.ite ?_ ?_
      | refine LeO.bind ?_ (fun _ => ?_)
    · intro y0 y1 y2 y3 y4
      unfold targumref4_Compare.j1
      repeat' first
      | (with_reducible exact ih0 _ _ _)
      | (with_reducible exact ih1 _ _ _ _ _)
      | (with_reducible exact ih2 _ _ _ _)
      | (with_reducible exact targumref4_Good.mono _ _)
      | (with_reducible exact LeO.refl _)
      | (with_reducible exact LeO.none _)
      | (with_reducible refine LeO.ite ?_ ?_)
      | (with_reducible refine LeO.bind ?_ (fun _ => ?_))
      | exact ih0 _ _ _
      | exact ih1 _ _ _ _ _
      | exact ih2 _ _ _ _
      | exact targumref4_Good.mono _ _
      | exact LeO.none _
      | refine LeO.ite ?_ ?_
      | refine LeO.bind ?_ (fun _ => ?_)
    · intro y0 y1 y2 y3
      unfold targumref4_Compare.j2
      repeat' first
      | (with_reducible exact ih0 _ _ _)
      | (with_reducible exact ih1 _ _ _ _ _)
      | (with_reducible exact ih2 _ _ _ _)
      | (with_reducible exact targumref4_Good.mono _ _)
      | (with_reducible exact LeO.refl _)
      | (with_reducible exact LeO.none _)
      | (with_reducible refine LeO.ite ?_ ?_)
      | (with_reducible refine LeO.bind ?_ (fun _ => ?_))
      | exact ih0 _ _ _
      | exact ih1 _ _ _ _ _
      | exact ih2 _ _ _ _
      | exact targumref4_Good.mono _ _
      | exact LeO.none _
      | refine LeO.ite ?_ ?_
      | refine LeO.bind ?_ (fun _ => ?_)
theorem targumref4_Compare.mono : ∀ a0 a1 k, LeO (targumref4_Compare.f k a0 a1) (targumref4_Compare.f (k + 1) a0 a1) := by
  intro a0 a1 k
  obtain ⟨ih0, ih1, ih2⟩ := targumref4_Compare.mono_l k
  unfold targumref4_Compare.f
  repeat' first
      | (with_reducible exact ih0 _ _ _)
      | (with_reducible exact ih1 _ _ _ _ _)
      | (with_reducible exact ih2 _ _ _ _)
      | (with_reducible exact targumref4_Good.mono _ _)
      | (with_reducible exact LeO.refl _)
      | (with_reducible exact LeO.none _)
      | (with_reducible refine LeO.ite ?_ ?_)
      | (with_reducible refine LeO.bind ?_ (fun _ => ?_))
      | exact ih0 _ _ _
      | exact ih1 _ _ _ _ _
      | exact ih2 _ _ _ _
      | exact targumref4_Good.mono _ _
      | exact LeO.none _
      | refine LeO.ite ?_ ?_
      | refine LeO.bind ?_ (fun _ => ?_)
set_option maxHeartbeats 8000000 in
set_option maxRecDepth 100000 in
theorem targumref4_Compare.calls (k : Nat) (a0 : ByteArray) (a1 : ByteArray) (r : Int) (w : World) (h : targumref4_Compare.f k a0 a1 = some r) :
    Calls Tryd.prog 26 #[.string a0, .string a1] w fun e w' => e = .returned (.int .i64 r) ∧ Drawn0 w w' := by
  have H : ((targumref4_Good.f k a0).bind fun t187 => (if t187 = true then ((targumref4_Good.f k a1).bind fun t188 => (targumref4_Compare.j0 k a0 a1 (!t188))) else (targumref4_Compare.j0 k a0 a1 true))) = some r := h
  clear h
  have HC3 := Aside0.mk H
  clear H
  go_enter Tryd.func26, Tryd.ntmps26
  go_upto_region 1 with (fail)
  repeat (go_quiet (fail); go_upto_region 1 with (fail))
  go_cut [14] (fun v14 wc => ∃ (kq : Nat) (x14_2 : Bool), v14 = .bool x14_2 ∧ Aside0 (targumref4_Compare.j0 kq a0 a1 x14_2 = some r) ∧ Aside0 (kq ≤ k) ∧ Drawn0 w wc)
  case first =>
    have H := HC3.out
    clear HC3
    replace H := Option.bind_eq_some_iff.mp H
    obtain ⟨t187, A40, H⟩ := H
    replace H : (if t187 = true then ((targumref4_Good.f k a1).bind fun t188 => (targumref4_Compare.j0 k a0 a1 (!t188))) else (targumref4_Compare.j0 k a0 a1 true)) = some r := H
    have A4 := Aside0.mk A40
    clear A40
    by_cases c5 : t187 = true
    · subst c5
      have H1 : ((targumref4_Good.f k a1).bind fun t188 => (targumref4_Compare.j0 k a0 a1 (!t188))) = some r := by rw [if_pos rfl] at H; exact H
      clear H
      have H := H1
      clear H1
      replace H := Option.bind_eq_some_iff.mp H
      obtain ⟨t188, A60, H⟩ := H
      replace H : (targumref4_Compare.j0 k a0 a1 (!t188)) = some r := H
      have A6 := Aside0.mk A60
      clear A60
      have H' := Aside0.mk H
      clear H
      go_wp2_with (first | (go_at_call 17; (try (rename_i hK_; simp only [List.append] at hK_)); (with_reducible refine (targumref4_Good.calls k a0 true _ A4.out).mono ?_); rintro e w' ⟨rfl, ⟨nd, rfl⟩⟩; (try first | exact ⟨rfl, _, World.drewN_drewN _ _ _⟩ | exact ⟨rfl, _, Eq.trans (World.drewN_drewN _ _ _) (congrArg (World.drewN _) (Nat.add_assoc _ _ _))⟩)) | (go_at_call 17; (try (rename_i hK_; simp only [List.append] at hK_)); (with_reducible refine (targumref4_Good.calls k a1 t188 _ A6.out).mono ?_); rintro e w' ⟨rfl, ⟨nd, rfl⟩⟩; (try first | exact ⟨rfl, _, World.drewN_drewN _ _ _⟩ | exact ⟨rfl, _, Eq.trans (World.drewN_drewN _ _ _) (congrArg (World.drewN _) (Nat.add_assoc _ _ _))⟩)))
      repeat (go_quiet (first | (go_at_call 17; (try (rename_i hK_; simp only [List.append] at hK_)); (with_reducible refine (targumref4_Good.calls k a0 true _ A4.out).mono ?_); rintro e w' ⟨rfl, ⟨nd, rfl⟩⟩; (try first | exact ⟨rfl, _, World.drewN_drewN _ _ _⟩ | exact ⟨rfl, _, Eq.trans (World.drewN_drewN _ _ _) (congrArg (World.drewN _) (Nat.add_assoc _ _ _))⟩)) | (go_at_call 17; (try (rename_i hK_; simp only [List.append] at hK_)); (with_reducible refine (targumref4_Good.calls k a1 t188 _ A6.out).mono ?_); rintro e w' ⟨rfl, ⟨nd, rfl⟩⟩; (try first | exact ⟨rfl, _, World.drewN_drewN _ _ _⟩ | exact ⟨rfl, _, Eq.trans (World.drewN_drewN _ _ _) (congrArg (World.drewN _) (Nat.add_assoc _ _ _))⟩))); try go_wp2_with (first | (go_at_call 17; (try (rename_i hK_; simp only [List.append] at hK_)); (with_reducible refine (targumref4_Good.calls k a0 true _ A4.out).mono ?_); rintro e w' ⟨rfl, ⟨nd, rfl⟩⟩; (try first | exact ⟨rfl, _, World.drewN_drewN _ _ _⟩ | exact ⟨rfl, _, Eq.trans (World.drewN_drewN _ _ _) (congrArg (World.drewN _) (Nat.add_assoc _ _ _))⟩)) | (go_at_call 17; (try (rename_i hK_; simp only [List.append] at hK_)); (with_reducible refine (targumref4_Good.calls k a1 t188 _ A6.out).mono ?_); rintro e w' ⟨rfl, ⟨nd, rfl⟩⟩; (try first | exact ⟨rfl, _, World.drewN_drewN _ _ _⟩ | exact ⟨rfl, _, Eq.trans (World.drewN_drewN _ _ _) (congrArg (World.drewN _) (Nat.add_assoc _ _ _))⟩))))
      go_meet
      case rel => exact ⟨_, (!t188), (by first | rfl | (simp; done) | (simp [*]; done) | (simp [wrap64]; done)), H', ⟨by first | omega | exact Nat.le_refl _⟩, by repeat (first | exact Drawn0.refl _ | apply Drawn0.step)⟩
    · replace c5 := Bool.eq_false_iff.mpr c5
      subst c5
      have H1 : (targumref4_Compare.j0 k a0 a1 true) = some r := by rw [if_neg (show ¬ (false = true) by decide)] at H; exact H
      clear H
      have H := H1
      clear H1
      have H' := Aside0.mk H
      clear H
      go_wp2_with (first | (go_at_call 17; (try (rename_i hK_; simp only [List.append] at hK_)); (with_reducible refine (targumref4_Good.calls k a0 false _ A4.out).mono ?_); rintro e w' ⟨rfl, ⟨nd, rfl⟩⟩; (try first | exact ⟨rfl, _, World.drewN_drewN _ _ _⟩ | exact ⟨rfl, _, Eq.trans (World.drewN_drewN _ _ _) (congrArg (World.drewN _) (Nat.add_assoc _ _ _))⟩)))
      repeat (go_quiet (first | (go_at_call 17; (try (rename_i hK_; simp only [List.append] at hK_)); (with_reducible refine (targumref4_Good.calls k a0 false _ A4.out).mono ?_); rintro e w' ⟨rfl, ⟨nd, rfl⟩⟩; (try first | exact ⟨rfl, _, World.drewN_drewN _ _ _⟩ | exact ⟨rfl, _, Eq.trans (World.drewN_drewN _ _ _) (congrArg (World.drewN _) (Nat.add_assoc _ _ _))⟩))); try go_wp2_with (first | (go_at_call 17; (try (rename_i hK_; simp only [List.append] at hK_)); (with_reducible refine (targumref4_Good.calls k a0 false _ A4.out).mono ?_); rintro e w' ⟨rfl, ⟨nd, rfl⟩⟩; (try first | exact ⟨rfl, _, World.drewN_drewN _ _ _⟩ | exact ⟨rfl, _, Eq.trans (World.drewN_drewN _ _ _) (congrArg (World.drewN _) (Nat.add_assoc _ _ _))⟩))))
      go_meet
      case rel => exact ⟨_, (true), (by first | rfl | (simp; done) | (simp [*]; done) | (simp [wrap64]; done)), H', ⟨by first | omega | exact Nat.le_refl _⟩, by repeat (first | exact Drawn0.refl _ | apply Drawn0.step)⟩
  case rest =>
    clear HC3
    try clear c2
    try clear p2
    try clear c5
    obtain ⟨kq, x14_2, rfl, HA, HJ2, ⟨mc2, rfl⟩⟩ := hcut
    cases kq with
    | zero => exact absurd HA.out (by simp [targumref4_Compare.j0])
    | succ kj2 =>
      have H := HA.out
      clear HA
      simp only [targumref4_Compare.j0] at H
      by_cases c7 : x14_2 = true
      · subst c7
        have H1 : (some 0) = some r := by rw [if_pos rfl] at H; exact H
        clear H
        have H := H1
        clear H1
        obtain rfl := Option.some.inj H
        go_wp2
        repeat (go_quiet (fail); try go_wp2)
        go_ret
        exact ⟨by first | rfl | (simp; done) | (simp [*]; done) | (simp [wrap64]; done), by repeat (first | exact Drawn0.refl _ | apply Drawn0.step)⟩
      · replace c7 := Bool.eq_false_iff.mpr c7
        subst c7
        have H1 : (if 0 < (a0.size : Int) then (if 0 < (a1.size : Int) then (if (bt a0 0) = 45 then (targumref4_Compare.j1 kj2 a0 a1 ((bt a0 0) == 45) ((bt a1 0) == 45) (!((bt a1 0) == 45))) else (targumref4_Compare.j1 kj2 a0 a1 ((bt a0 0) == 45) ((bt a1 0) == 45) false)) else (none)) else (none)) = some r := by rw [if_neg (show ¬ (false = true) by decide)] at H; exact H
        clear H
        have H := H1
        clear H1
        by_cases c8 : 0 < (a0.size : Int)
        · rw [if_pos c8] at H
          have c8b0 : decide (0 < (a0.size : Int)) = true := decide_eq_true c8
          have c8b1 : decide (0 < a0.size) = true := decide_eq_true (by omega)
          clear c8
          by_cases c10 : 0 < (a1.size : Int)
          · rw [if_pos c10] at H
            have c10b0 : decide (0 < (a1.size : Int)) = true := decide_eq_true c10
            have c10b1 : decide (0 < a1.size) = true := decide_eq_true (by omega)
            clear c10
            have HC12 := Aside0.mk H
            clear H
            have p9 : 0 ≤ (0 : Int) := (by omega)
            have q9 : 0 < a0.size := (by have : (0 : Int) < (a0.size : Int) := of_decide_eq_true (by first | (with_reducible assumption) | assumption); omega)
            have hx9 : ∀ h : 0 < a0.size, ((a0[0]'h).toNat : Int) = bt a0 0 := bt_at a0 0
            clear p9
            have qi9 : (0 < (a0.size : Int)) = True := eq_true (of_decide_eq_true (by first | (with_reducible assumption) | assumption))
            replace q9 := eq_true q9
            have p11 : 0 ≤ (0 : Int) := (by omega)
            have q11 : 0 < a1.size := (by have : (0 : Int) < (a1.size : Int) := of_decide_eq_true (by first | (with_reducible assumption) | assumption); omega)
            have hx11 : ∀ h : 0 < a1.size, ((a1[0]'h).toNat : Int) = bt a1 0 := bt_at a1 0
            clear p11
            have qi11 : (0 < (a1.size : Int)) = True := eq_true (of_decide_eq_true (by first | (with_reducible assumption) | assumption))
            replace q11 := eq_true q11
            go_upto_region 4 with (fail)
            repeat (go_quiet (fail); go_upto_region 4 with (fail))
            go_cut [5, 6, 21] (fun v5 v6 v21 wc => ∃ (kq : Nat) (x5_11 : Bool) (x6_11 : Bool) (x21_11 : Bool), v5 = .bool x5_11 ∧ v6 = .bool x6_11 ∧ v21 = .bool x21_11 ∧ Aside0 (targumref4_Compare.j1 kq a0 a1 x5_11 x6_11 x21_11 = some r) ∧ Aside0 (kq ≤ kj2) ∧ Drawn0 w wc)
            case first =>
              have H := HC12.out
              clear HC12
              by_cases c13 : (bt a0 0) = 45
              · rw [if_pos c13] at H
                have c13b0 : ((bt a0 0) == 45) = true := beq_iff_eq.mpr c13
                have c13b1 : ((bt a0 0) != 45) = false := bne_eq_false_iff_eq.mpr c13
                clear c13
                (first | rw [c13b0] | (simp only [i64_w, i32_w]; rw [c13b0]) | skip)
                have H' := Aside0.mk H
                clear H
                go_wp2
                repeat (go_quiet (fail); try go_wp2)
                go_meet
                case rel => exact ⟨_, (((bt a0 0) == 45)), (((bt a1 0) == 45)), (!((bt a1 0) == 45)), (by first | rfl | (simp; done) | (simp [*]; done) | (simp [wrap64]; done)), (by first | rfl | (simp; done) | (simp [*]; done) | (simp [wrap64]; done)), (by first | rfl | (simp; done) | (simp [*]; done) | (simp [wrap64]; done)), H', ⟨by have := HJ2.out; first | omega | exact Nat.le_refl _⟩, by repeat (first | exact Drawn0.refl _ | apply Drawn0.step)⟩
              · rw [if_neg c13] at H
                have c13b0 : ((bt a0 0) == 45) = false := beq_eq_false_iff_ne.mpr c13
                have c13b1 : ((bt a0 0) != 45) = true := bne_iff_ne.mpr c13
                (first | rw [c13b0] | (simp only [i64_w, i32_w]; rw [c13b0]) | skip)
                have H' := Aside0.mk H
                clear H
                go_wp2
                repeat (go_quiet (fail); try go_wp2)
                go_meet
                case rel => exact ⟨_, (((bt a0 0) == 45)), (((bt a1 0) == 45)), (false), (by first | rfl | (simp; done) | (simp [*]; done) | (simp [wrap64]; done)), (by first | rfl | (simp; done) | (simp [*]; done) | (simp [wrap64]; done)), (by first | rfl | (simp; done) | (simp [*]; done) | (simp [wrap64]; done)), H', ⟨by have := HJ2.out; first | omega | exact Nat.le_refl _⟩, by repeat (first | exact Drawn0.refl _ | apply Drawn0.step)⟩
            case rest =>
              clear HC12
              try clear c1
              try clear p1
              try clear q1
              try clear hx1
              try clear qi1
              try clear c2
              try clear p2
              try clear c5
              try clear c7
              try clear c8
              try clear c8b0
              try clear c8b1
              try clear p9
              try clear q9
              try clear hx9
              try clear qi9
              try clear c10
              try clear c10b0
              try clear c10b1
              try clear p11
              try clear q11
              try clear hx11
              try clear qi11
              try clear c13
              try clear c13b0
              try clear c13b1
              try clear p11
              try clear p2
              try clear p9
              try clear q11
              try clear q9
              obtain ⟨kq, x5_11, x6_11, x21_11, rfl, rfl, rfl, HA, HJ11, ⟨mc11, rfl⟩⟩ := hcut
              cases kq with
              | zero => exact absurd HA.out (by simp [targumref4_Compare.j1])
              | succ kj11 =>
                have H := HA.out
                clear HA
                simp only [targumref4_Compare.j1] at H
                by_cases c14 : x21_11 = true
                · subst c14
                  have H1 : (some (-1)) = some r := by rw [if_pos rfl] at H; exact H
                  clear H
                  have H := H1
                  clear H1
                  obtain rfl := Option.some.inj H
                  go_wp2
                  repeat (go_quiet (fail); try go_wp2)
                  go_ret
                  exact ⟨by first | rfl | (simp; done) | (simp [*]; done) | (simp [wrap64]; done), by repeat (first | exact Drawn0.refl _ | apply Drawn0.step)⟩
                · replace c14 := Bool.eq_false_iff.mpr c14
                  subst c14
                  have H1 : (if x6_11 = true then (targumref4_Compare.j2 kj11 a0 a1 x5_11 (!x5_11)) else (targumref4_Compare.j2 kj11 a0 a1 x5_11 false)) = some r := by rw [if_neg (show ¬ (false = true) by decide)] at H; exact H
                  clear H
                  have H := H1
                  clear H1
                  have HC15 := Aside0.mk H
                  clear H
                  go_upto_region 6 with (fail)
                  repeat (go_quiet (fail); go_upto_region 6 with (fail))
                  go_cut [27] (fun v27 wc => ∃ (kq : Nat) (x27_14 : Bool), v27 = .bool x27_14 ∧ Aside0 (targumref4_Compare.j2 kq a0 a1 x5_11 x27_14 = some r) ∧ Aside0 (kq ≤ kj11) ∧ Drawn0 w wc)
                  case first =>
                    have H := HC15.out
                    clear HC15
                    by_cases c16 : x6_11 = true
                    · subst c16
                      have H1 : (targumref4_Compare.j2 kj11 a0 a1 x5_11 (!x5_11)) = some r := by rw [if_pos rfl] at H; exact H
                      clear H
                      have H := H1
                      clear H1
                      have H' := Aside0.mk H
                      clear H
                      go_wp2
                      repeat (go_quiet (fail); try go_wp2)
                      go_meet
                      case rel => exact ⟨_, (!x5_11), (by first | rfl | (simp; done) | (simp [*]; done) | (simp [wrap64]; done)), H', ⟨by have := HJ2.out; have := HJ11.out; first | omega | exact Nat.le_refl _⟩, by repeat (first | exact Drawn0.refl _ | apply Drawn0.step)⟩
                    · replace c16 := Bool.eq_false_iff.mpr c16
                      subst c16
                      have H1 : (targumref4_Compare.j2 kj11 a0 a1 x5_11 false) = some r := by rw [if_neg (show ¬ (false = true) by decide)] at H; exact H
                      clear H
                      have H := H1
                      clear H1
                      have H' := Aside0.mk H
                      clear H
                      go_wp2
                      repeat (go_quiet (fail); try go_wp2)
                      go_meet
                      case rel => exact ⟨_, (false), (by first | rfl | (simp; done) | (simp [*]; done) | (simp [wrap64]; done)), H', ⟨by have := HJ2.out; have := HJ11.out; first | omega | exact Nat.le_refl _⟩, by repeat (first | exact Drawn0.refl _ | apply Drawn0.step)⟩
                  case rest =>
                    clear HC15
                    try clear c1
                    try clear p1
                    try clear q1
                    try clear hx1
                    try clear qi1
                    try clear c2
                    try clear p2
                    try clear c5
                    try clear c7
                    try clear c8
                    try clear c8b0
                    try clear c8b1
                    try clear p9
                    try clear q9
                    try clear hx9
                    try clear qi9
                    try clear c10
                    try clear c10b0
                    try clear c10b1
                    try clear c11
                    try clear p11
                    try clear q11
                    try clear hx11
                    try clear qi11
                    try clear c13
                    try clear c13b0
                    try clear c13b1
                    try clear c14
                    try clear c16
                    try clear p1
                    try clear p11
                    try clear p2
                    try clear p9
                    try clear q1
                    try clear q11
                    try clear q9
                    obtain ⟨kq, x27_14, rfl, HA, HJ14, ⟨mc14, rfl⟩⟩ := hcut
                    cases kq with
                    | zero => exact absurd HA.out (by simp [targumref4_Compare.j2])
                    | succ kj14 =>
                      have H := HA.out
                      clear HA
                      simp only [targumref4_Compare.j2] at H
                      by_cases c17 : x27_14 = true
                      · subst c17
                        have H1 : (some 1) = some r := by rw [if_pos rfl] at H; exact H
                        clear H
                        have H := H1
                        clear H1
                        obtain rfl := Option.some.inj H
                        go_wp2
                        repeat (go_quiet (fail); try go_wp2)
                        go_ret
                        exact ⟨by first | rfl | (simp; done) | (simp [*]; done) | (simp [wrap64]; done), by repeat (first | exact Drawn0.refl _ | apply Drawn0.step)⟩
                      · replace c17 := Bool.eq_false_iff.mpr c17
                        subst c17
                        have H1 : (if x5_11 = true then (if 1 ≤ (a1.size : Int) then (if 1 ≤ (a0.size : Int) then ((targumref4_compare.f (a1.extract 1 a1.size) (a0.extract 1 a0.size)).bind fun t189 => (some t189)) else (none)) else (none)) else ((targumref4_compare.f a0 a1).bind fun t190 => (some t190))) = some r := by rw [if_neg (show ¬ (false = true) by decide)] at H; exact H
                        clear H
                        have H := H1
                        clear H1
                        by_cases c18 : x5_11 = true
                        · subst c18
                          have H1 : (if 1 ≤ (a1.size : Int) then (if 1 ≤ (a0.size : Int) then ((targumref4_compare.f (a1.extract 1 a1.size) (a0.extract 1 a0.size)).bind fun t189 => (some t189)) else (none)) else (none)) = some r := by rw [if_pos rfl] at H; exact H
                          clear H
                          have H := H1
                          clear H1
                          by_cases c19 : 1 ≤ (a1.size : Int)
                          · rw [if_pos c19] at H
                            have c19b0 := eq_true c19
                            have c19b1 : decide (1 ≤ (a1.size : Int)) = true := decide_eq_true c19
                            clear c19
                            by_cases c20 : 1 ≤ (a0.size : Int)
                            · rw [if_pos c20] at H
                              have c20b0 := eq_true c20
                              have c20b1 : decide (1 ≤ (a0.size : Int)) = true := decide_eq_true c20
                              clear c20
                              replace H := Option.bind_eq_some_iff.mp H
                              obtain ⟨t189, A210, H⟩ := H
                              replace H : (some t189) = some r := H
                              have A21 := Aside0.mk A210
                              clear A210
                              obtain rfl := Option.some.inj H
                              go_wp2_with (first | (go_at_call 52; (try (rename_i hK_; simp only [List.append] at hK_)); (with_reducible refine (targumref4_compare.calls (a1.extract 1 a1.size) (a0.extract 1 a0.size) t189 _ A21.out).mono ?_); rintro e w' ⟨rfl, ⟨nd, rfl⟩⟩; (try first | exact ⟨rfl, _, World.drewN_drewN _ _ _⟩ | exact ⟨rfl, _, Eq.trans (World.drewN_drewN _ _ _) (congrArg (World.drewN _) (Nat.add_assoc _ _ _))⟩)))
                              repeat (go_quiet (first | (go_at_call 52; (try (rename_i hK_; simp only [List.append] at hK_)); (with_reducible refine (targumref4_compare.calls (a1.extract 1 a1.size) (a0.extract 1 a0.size) t189 _ A21.out).mono ?_); rintro e w' ⟨rfl, ⟨nd, rfl⟩⟩; (try first | exact ⟨rfl, _, World.drewN_drewN _ _ _⟩ | exact ⟨rfl, _, Eq.trans (World.drewN_drewN _ _ _) (congrArg (World.drewN _) (Nat.add_assoc _ _ _))⟩))); try go_wp2_with (first | (go_at_call 52; (try (rename_i hK_; simp only [List.append] at hK_)); (with_reducible refine (targumref4_compare.calls (a1.extract 1 a1.size) (a0.extract 1 a0.size) t189 _ A21.out).mono ?_); rintro e w' ⟨rfl, ⟨nd, rfl⟩⟩; (try first | exact ⟨rfl, _, World.drewN_drewN _ _ _⟩ | exact ⟨rfl, _, Eq.trans (World.drewN_drewN _ _ _) (congrArg (World.drewN _) (Nat.add_assoc _ _ _))⟩))))
                              go_ret
                              exact ⟨by first | rfl | (simp; done) | (simp [*]; done) | (simp [wrap64]; done), by repeat (first | exact Drawn0.refl _ | apply Drawn0.step)⟩
                            · rw [if_neg c20] at H
                              exact absurd H (by simp)
                          · rw [if_neg c19] at H
                            exact absurd H (by simp)
                        · replace c18 := Bool.eq_false_iff.mpr c18
                          subst c18
                          have H1 : ((targumref4_compare.f a0 a1).bind fun t190 => (some t190)) = some r := by rw [if_neg (show ¬ (false = true) by decide)] at H; exact H
                          clear H
                          have H := H1
                          clear H1
                          replace H := Option.bind_eq_some_iff.mp H
                          obtain ⟨t190, A220, H⟩ := H
                          replace H : (some t190) = some r := H
                          have A22 := Aside0.mk A220
                          clear A220
                          obtain rfl := Option.some.inj H
                          go_wp2_with (first | (go_at_call 52; (try (rename_i hK_; simp only [List.append] at hK_)); (with_reducible refine (targumref4_compare.calls a0 a1 t190 _ A22.out).mono ?_); rintro e w' ⟨rfl, ⟨nd, rfl⟩⟩; (try first | exact ⟨rfl, _, World.drewN_drewN _ _ _⟩ | exact ⟨rfl, _, Eq.trans (World.drewN_drewN _ _ _) (congrArg (World.drewN _) (Nat.add_assoc _ _ _))⟩)))
                          repeat (go_quiet (first | (go_at_call 52; (try (rename_i hK_; simp only [List.append] at hK_)); (with_reducible refine (targumref4_compare.calls a0 a1 t190 _ A22.out).mono ?_); rintro e w' ⟨rfl, ⟨nd, rfl⟩⟩; (try first | exact ⟨rfl, _, World.drewN_drewN _ _ _⟩ | exact ⟨rfl, _, Eq.trans (World.drewN_drewN _ _ _) (congrArg (World.drewN _) (Nat.add_assoc _ _ _))⟩))); try go_wp2_with (first | (go_at_call 52; (try (rename_i hK_; simp only [List.append] at hK_)); (with_reducible refine (targumref4_compare.calls a0 a1 t190 _ A22.out).mono ?_); rintro e w' ⟨rfl, ⟨nd, rfl⟩⟩; (try first | exact ⟨rfl, _, World.drewN_drewN _ _ _⟩ | exact ⟨rfl, _, Eq.trans (World.drewN_drewN _ _ _) (congrArg (World.drewN _) (Nat.add_assoc _ _ _))⟩))))
                          go_ret
                          exact ⟨by first | rfl | (simp; done) | (simp [*]; done) | (simp [wrap64]; done), by repeat (first | exact Drawn0.refl _ | apply Drawn0.step)⟩
          · rw [if_neg c10] at H
            exact absurd H (by simp)
        · rw [if_neg c8] at H
          exact absurd H (by simp)

end Go.Proofs.YtddaggnomcoejaaDoor.PR
