/- Written by this session's own program (xprint, made over the kit's print): Lean functions with the same answers as the Go functions, and the proofs of that. Not trusted: Lean checks it. -/
import Derived.Test.YtddaggnomcoejaaDoorPQx0
import Derived.Test.YtddaggnomcoejaaDoorPQx1
import Derived.Test.YtddaggnomcoejaaDoorPQx2
namespace Go.Proofs.YtddaggnomcoejaaDoor.PQ
open Go.RowKit Go.Proofs.YtddaggnomcoejaaDoorW.PrintWords Go.Proofs.YtddaggnomcoejaaDoorW.PrintLast Go.Proofs.YtddaggnomcoejaaDoorW.PrintMore
attribute [local go_sem] max2_int min2_int max_two min_two max_three min_three max_four min_four   -- for this text's walks alone
set_option linter.unusedVariables false
set_option linter.unusedSimpArgs false

/-! ### big_Compare: function 25 -/
mutual
def big_Compare.j0 : Nat → ByteArray → ByteArray → Bool → Option (Int)
  | 0, _, _, _ => none
  | k + 1, x0, x1, x16 => if x16 = true then (some 0) else ((big_parts.f x0).bind fun bt133 => ((big_parts.f x1).bind fun bt135 => (if bt133.1 = true then (big_Compare.j1 k bt133.1 bt133.2 bt135.1 bt135.2 bt135.1) else (big_Compare.j1 k bt133.1 bt133.2 bt135.1 bt135.2 false))))
def big_Compare.j1 : Nat → Bool → ByteArray → Bool → ByteArray → Bool → Option (Int)
  | 0, _, _, _, _, _ => none
  | k + 1, x5, x6, x7, x8, x27 => if x27 = true then ((big_above.f x8 x6).bind fun t137 => (some t137)) else (if x5 = true then (some (-1)) else (if x7 = true then (some 1) else ((big_above.f x6 x8).bind fun t138 => (some t138))))
end
def big_Compare.f (k : Nat) (a0 : ByteArray) (a1 : ByteArray) : Option (Int) := (big_Good.f k a0).bind fun t131 => (if t131 = true then ((big_Good.f k a1).bind fun t132 => (big_Compare.j0 k a0 a1 (!t132))) else (big_Compare.j0 k a0 a1 true))
theorem big_Compare.mono_l : ∀ k, (∀ y0 y1 y2, LeO (big_Compare.j0 k y0 y1 y2) (big_Compare.j0 (k + 1) y0 y1 y2)) ∧ (∀ y0 y1 y2 y3 y4, LeO (big_Compare.j1 k y0 y1 y2 y3 y4) (big_Compare.j1 (k + 1) y0 y1 y2 y3 y4))
  | 0 => ⟨fun _ _ _ r h => by simp [big_Compare.j0] at h, fun _ _ _ _ _ r h => by simp [big_Compare.j1] at h⟩
  | k + 1 => by
    obtain ⟨ih0, ih1⟩ := big_Compare.mono_l k
    refine ⟨?_, ?_⟩
    · intro y0 y1 y2
      unfold big_Compare.j0
      repeat' first
      | (with_reducible exact ih0 _ _ _)
      | (with_reducible exact ih1 _ _ _ _ _)
      | (with_reducible exact big_Good.mono _ _)
      | (with_reducible exact LeO.refl _)
      | (with_reducible exact LeO.none _)
      | (with_reducible refine LeO.ite ?_ ?_)
      | (with_reducible refine LeO.bind ?_ (fun _ => ?_))
      | exact ih0 _ _ _
      | exact ih1 _ _ _ _ _
      | exact big_Good.mono _ _
      | exact LeO.none _
      | refine LeO.ite ?_ ?_
      | refine LeO.bind ?_ (fun _ => ?_)
    · intro y0 y1 y2 y3 y4
      unfold big_Compare.j1
      repeat' first
      | (with_reducible exact ih0 _ _ _)
      | (with_reducible exact ih1 _ _ _ _ _)
      | (with_reducible exact big_Good.mono _ _)
      | (with_reducible exact LeO.refl _)
      | (with_reducible exact LeO.none _)
      | (with_reducible refine LeO.ite ?_ ?_)
      | (with_reducible refine LeO.bind ?_ (fun _ => ?_))
      | exact ih0 _ _ _
      | exact ih1 _ _ _ _ _
      | exact big_Good.mono _ _
      | exact LeO.none _
      | refine LeO.ite ?_ ?_
      | refine LeO.bind ?_ (fun _ => ?_)
theorem big_Compare.mono : ∀ a0 a1 k, LeO (big_Compare.f k a0 a1) (big_Compare.f (k + 1) a0 a1) := by
  intro a0 a1 k
  obtain ⟨ih0, ih1⟩ := big_Compare.mono_l k
  unfold big_Compare.f
  repeat' first
      | (with_reducible exact ih0 _ _ _)
      | (with_reducible exact ih1 _ _ _ _ _)
      | (with_reducible exact big_Good.mono _ _)
      | (with_reducible exact LeO.refl _)
      | (with_reducible exact LeO.none _)
      | (with_reducible refine LeO.ite ?_ ?_)
      | (with_reducible refine LeO.bind ?_ (fun _ => ?_))
      | exact ih0 _ _ _
      | exact ih1 _ _ _ _ _
      | exact big_Good.mono _ _
      | exact LeO.none _
      | refine LeO.ite ?_ ?_
      | refine LeO.bind ?_ (fun _ => ?_)
set_option maxHeartbeats 8000000 in
set_option maxRecDepth 100000 in
theorem big_Compare.calls (k : Nat) (a0 : ByteArray) (a1 : ByteArray) (r : Int) (w : World) (h : big_Compare.f k a0 a1 = some r) :
    Calls Tryd.prog 25 #[.string a0, .string a1] w fun e w' => e = .returned (.int .i64 r) ∧ Below w.heap.size w w' := by
  have HB := Aside0.mk (Below.refl w.heap.size w)
  have H : ((big_Good.f k a0).bind fun t131 => (if t131 = true then ((big_Good.f k a1).bind fun t132 => (big_Compare.j0 k a0 a1 (!t132))) else (big_Compare.j0 k a0 a1 true))) = some r := h
  clear h
  have HC3 := Aside0.mk H
  clear H
  go_enter Tryd.func25, Tryd.ntmps25
  go_upto_region 1 with (fail)
  go_cut [16] (fun v16 wc => ∃ (kq : Nat) (x16_2 : Bool), v16 = .bool x16_2 ∧ Aside0 (big_Compare.j0 kq a0 a1 x16_2 = some r) ∧ Aside0 (kq ≤ k) ∧ Aside0 (Below w.heap.size w wc))
  case first =>
    have H := HC3.out
    clear HC3
    replace H := Option.bind_eq_some_iff.mp H
    obtain ⟨t131, A40, H⟩ := H
    replace H : (if t131 = true then ((big_Good.f k a1).bind fun t132 => (big_Compare.j0 k a0 a1 (!t132))) else (big_Compare.j0 k a0 a1 true)) = some r := H
    have A4 := Aside0.mk A40
    clear A40
    by_cases c5 : t131 = true
    · subst c5
      have H1 : ((big_Good.f k a1).bind fun t132 => (big_Compare.j0 k a0 a1 (!t132))) = some r := by rw [if_pos rfl] at H; exact H
      clear H
      have H := H1
      clear H1
      replace H := Option.bind_eq_some_iff.mp H
      obtain ⟨t132, A60, H⟩ := H
      replace H : (big_Compare.j0 k a0 a1 (!t132)) = some r := H
      have A6 := Aside0.mk A60
      clear A60
      have H' := Aside0.mk H
      clear H
      go_wp2_with (first | ((with_reducible refine gate_callee (f := 16) rfl ?_); refine goesL_ (some 10) rfl rfl Tryd.func16 (by kernel_rfl) rfl #[.string a0] rfl (by (try simp only [List.map_toArray, List.map_cons, List.map_nil]); first | done | rfl | (simp only [List.length_drop, List.length_take]; rfl)) ?_; (with_reducible refine (big_Good.calls k a0 true _ A4.out).mono ?_); rintro e w' ⟨rfl, ⟨nd, rfl⟩⟩; refine ⟨_, rfl, ?_⟩) | (go_at_call 16; (try (rename_i hK_; simp only [List.append] at hK_)); (with_reducible refine (big_Good.calls k a1 t132 _ A6.out).mono ?_); rintro e w' ⟨rfl, ⟨nd, rfl⟩⟩))
      go_meet
      case rel => exact ⟨_, (!t132), (by first | rfl | (simp; done) | (simp [*]; done) | (simp [wrap64]; done)), H', ⟨by first | omega | exact Nat.le_refl _⟩, ⟨by repeat (first | (with_reducible first | exact HB.out | apply below_alloc | apply pw_below_drewN | apply below_drew1) | exact HB.out)⟩⟩
    · replace c5 := Bool.eq_false_iff.mpr c5
      subst c5
      have H1 : (big_Compare.j0 k a0 a1 true) = some r := by rw [if_neg (show ¬ (false = true) by decide)] at H; exact H
      clear H
      have H := H1
      clear H1
      have H' := Aside0.mk H
      clear H
      go_wp2_with (first | ((with_reducible refine gate_callee (f := 16) rfl ?_); refine goesL_ (some 10) rfl rfl Tryd.func16 (by kernel_rfl) rfl #[.string a0] rfl (by (try simp only [List.map_toArray, List.map_cons, List.map_nil]); first | done | rfl | (simp only [List.length_drop, List.length_take]; rfl)) ?_; (with_reducible refine (big_Good.calls k a0 false _ A4.out).mono ?_); rintro e w' ⟨rfl, ⟨nd, rfl⟩⟩; refine ⟨_, rfl, ?_⟩))
      go_meet
      case rel => exact ⟨_, (true), (by first | rfl | (simp; done) | (simp [*]; done) | (simp [wrap64]; done)), H', ⟨by first | omega | exact Nat.le_refl _⟩, ⟨by repeat (first | (with_reducible first | exact HB.out | apply below_alloc | apply pw_below_drewN | apply below_drew1) | exact HB.out)⟩⟩
  case rest =>
    clear HC3
    try clear c1
    try clear c2
    try clear p2
    try clear c5
    obtain ⟨kq, x16_2, rfl, HA, HJ2, HB⟩ := hcut
    cases kq with
    | zero => exact absurd HA.out (by simp [big_Compare.j0])
    | succ kj2 =>
      have H := HA.out
      clear HA
      simp only [big_Compare.j0] at H
      by_cases c7 : x16_2 = true
      · subst c7
        have H1 : (some 0) = some r := by rw [if_pos rfl] at H; exact H
        clear H
        have H := H1
        clear H1
        obtain rfl := Option.some.inj H
        go_wp2
        go_ret
        exact ⟨by first | rfl | (simp [errW_none, errW_some] <;> rfl) | (simp [*, errW_none, errW_some] <;> rfl), by repeat (first | (with_reducible first | exact HB.out | apply below_alloc | apply pw_below_drewN | apply below_drew1) | exact HB.out)⟩
      · replace c7 := Bool.eq_false_iff.mpr c7
        subst c7
        have H1 : ((big_parts.f a0).bind fun bt133 => ((big_parts.f a1).bind fun bt135 => (if bt133.1 = true then (big_Compare.j1 kj2 bt133.1 bt133.2 bt135.1 bt135.2 bt135.1) else (big_Compare.j1 kj2 bt133.1 bt133.2 bt135.1 bt135.2 false)))) = some r := by rw [if_neg (show ¬ (false = true) by decide)] at H; exact H
        clear H
        have H := H1
        clear H1
        replace H := Option.bind_eq_some_iff.mp H
        obtain ⟨⟨t133, t134⟩, A80, H⟩ := H
        replace H : ((big_parts.f a1).bind fun bt135 => (if t133 = true then (big_Compare.j1 kj2 t133 t134 bt135.1 bt135.2 bt135.1) else (big_Compare.j1 kj2 t133 t134 bt135.1 bt135.2 false))) = some r := H
        have A8 := Aside0.mk A80
        clear A80
        replace H := Option.bind_eq_some_iff.mp H
        obtain ⟨⟨t135, t136⟩, A90, H⟩ := H
        replace H : (if t133 = true then (big_Compare.j1 kj2 t133 t134 t135 t136 t135) else (big_Compare.j1 kj2 t133 t134 t135 t136 false)) = some r := H
        have A9 := Aside0.mk A90
        clear A90
        have HC10 := Aside0.mk H
        clear H
        go_upto_region 5 with (first | ((with_reducible refine gate_callee (f := 39) rfl ?_); refine goesL_ (some 19) rfl rfl Tryd.func39 (by kernel_rfl) rfl #[.string a0] rfl (by (try simp only [List.map_toArray, List.map_cons, List.map_nil]); first | done | rfl | (simp only [List.length_drop, List.length_take]; rfl)) ?_; (with_reducible refine (big_parts.calls a0 t133 t134 _ A8.out).mono ?_); rintro e w' ⟨rfl, ⟨nd, rfl⟩⟩; refine ⟨_, rfl, ?_⟩) | ((with_reducible refine gate_callee (f := 39) rfl ?_); refine goesL_ (some 24) rfl rfl Tryd.func39 (by kernel_rfl) rfl #[.string a1] rfl (by (try simp only [List.map_toArray, List.map_cons, List.map_nil]); first | done | rfl | (simp only [List.length_drop, List.length_take]; rfl)) ?_; (with_reducible refine (big_parts.calls a1 t135 t136 _ A9.out).mono ?_); rintro e w' ⟨rfl, ⟨nd, rfl⟩⟩; refine ⟨_, rfl, ?_⟩))
        (try simp only [Act.put, List.setIfInBounds_toArray, List.set_cons_zero, List.set_cons_succ])
        go_cut [27] (fun v27 wc => ∃ (kq : Nat) (x27_9 : Bool), v27 = .bool x27_9 ∧ Aside0 (big_Compare.j1 kq t133 t134 t135 t136 x27_9 = some r) ∧ Aside0 (kq ≤ kj2) ∧ Aside0 (Below w.heap.size w wc))
        case first =>
          have H := HC10.out
          clear HC10
          by_cases c11 : t133 = true
          · subst c11
            have H1 : (big_Compare.j1 kj2 true t134 t135 t136 t135) = some r := by rw [if_pos rfl] at H; exact H
            clear H
            have H := H1
            clear H1
            have H' := Aside0.mk H
            clear H
            go_wp2
            go_meet
            case rel => exact ⟨_, (t135), (by first | rfl | (simp; done) | (simp [*]; done) | (simp [wrap64]; done)), H', ⟨by have := HJ2.out; first | omega | exact Nat.le_refl _⟩, ⟨by repeat (first | (with_reducible first | exact HB.out | apply below_alloc | apply pw_below_drewN | apply below_drew1) | exact HB.out)⟩⟩
          · replace c11 := Bool.eq_false_iff.mpr c11
            subst c11
            have H1 : (big_Compare.j1 kj2 false t134 t135 t136 false) = some r := by rw [if_neg (show ¬ (false = true) by decide)] at H; exact H
            clear H
            have H := H1
            clear H1
            have H' := Aside0.mk H
            clear H
            go_wp2
            go_meet
            case rel => exact ⟨_, (false), (by first | rfl | (simp; done) | (simp [*]; done) | (simp [wrap64]; done)), H', ⟨by have := HJ2.out; first | omega | exact Nat.le_refl _⟩, ⟨by repeat (first | (with_reducible first | exact HB.out | apply below_alloc | apply pw_below_drewN | apply below_drew1) | exact HB.out)⟩⟩
        case rest =>
          clear HC10
          try clear c1
          try clear c2
          try clear p2
          try clear c3
          try clear c5
          try clear c7
          try clear c11
          try clear p2
          obtain ⟨kq, x27_9, rfl, HA, HJ9, HB⟩ := hcut
          cases kq with
          | zero => exact absurd HA.out (by simp [big_Compare.j1])
          | succ kj9 =>
            have H := HA.out
            clear HA
            simp only [big_Compare.j1] at H
            by_cases c12 : x27_9 = true
            · subst c12
              have H1 : ((big_above.f t136 t134).bind fun t137 => (some t137)) = some r := by rw [if_pos rfl] at H; exact H
              clear H
              have H := H1
              clear H1
              replace H := Option.bind_eq_some_iff.mp H
              obtain ⟨t137, A130, H⟩ := H
              replace H : (some t137) = some r := H
              have A13 := Aside0.mk A130
              clear A130
              obtain rfl := Option.some.inj H
              go_wp2_with (first | ((with_reducible refine gate_callee (f := 49) rfl ?_); refine goesL_ (some 34) rfl rfl Tryd.func49 (by kernel_rfl) rfl #[.string t136, .string t134] rfl (by (try simp only [List.map_toArray, List.map_cons, List.map_nil]); first | done | rfl | (simp only [List.length_drop, List.length_take]; rfl)) ?_; (with_reducible refine (big_above.calls t136 t134 t137 _ A13.out).mono ?_); rintro e w14 ⟨rfl, hb⟩; refine ⟨_, rfl, ?_⟩; have n0_ := Aside0.mk (below_step (by repeat (first | (with_reducible first | exact HB.out | apply below_alloc | apply pw_below_drewN | apply below_drew1) | exact HB.out)) hb); clear HB; have HB := n0_; clear n0_; (try clear hb); (try clear hb2); (try clear hk); (try clear hi)))
              go_ret
              exact ⟨by first | rfl | (simp [errW_none, errW_some] <;> rfl) | (simp [*, errW_none, errW_some] <;> rfl), by repeat (first | (with_reducible first | exact HB.out | apply below_alloc | apply pw_below_drewN | apply below_drew1) | exact HB.out)⟩
            · replace c12 := Bool.eq_false_iff.mpr c12
              subst c12
              have H1 : (if t133 = true then (some (-1)) else (if t135 = true then (some 1) else ((big_above.f t134 t136).bind fun t138 => (some t138)))) = some r := by rw [if_neg (show ¬ (false = true) by decide)] at H; exact H
              clear H
              have H := H1
              clear H1
              by_cases c15 : t133 = true
              · subst c15
                have H1 : (some (-1)) = some r := by rw [if_pos rfl] at H; exact H
                clear H
                have H := H1
                clear H1
                obtain rfl := Option.some.inj H
                go_wp2
                go_ret
                exact ⟨by first | rfl | (simp [errW_none, errW_some] <;> rfl) | (simp [*, errW_none, errW_some] <;> rfl), by repeat (first | (with_reducible first | exact HB.out | apply below_alloc | apply pw_below_drewN | apply below_drew1) | exact HB.out)⟩
              · replace c15 := Bool.eq_false_iff.mpr c15
                subst c15
                have H1 : (if t135 = true then (some 1) else ((big_above.f t134 t136).bind fun t138 => (some t138))) = some r := by rw [if_neg (show ¬ (false = true) by decide)] at H; exact H
                clear H
                have H := H1
                clear H1
                by_cases c16 : t135 = true
                · subst c16
                  have H1 : (some 1) = some r := by rw [if_pos rfl] at H; exact H
                  clear H
                  have H := H1
                  clear H1
                  obtain rfl := Option.some.inj H
                  go_wp2
                  go_ret
                  exact ⟨by first | rfl | (simp [errW_none, errW_some] <;> rfl) | (simp [*, errW_none, errW_some] <;> rfl), by repeat (first | (with_reducible first | exact HB.out | apply below_alloc | apply pw_below_drewN | apply below_drew1) | exact HB.out)⟩
                · replace c16 := Bool.eq_false_iff.mpr c16
                  subst c16
                  have H1 : ((big_above.f t134 t136).bind fun t138 => (some t138)) = some r := by rw [if_neg (show ¬ (false = true) by decide)] at H; exact H
                  clear H
                  have H := H1
                  clear H1
                  replace H := Option.bind_eq_some_iff.mp H
                  obtain ⟨t138, A170, H⟩ := H
                  replace H : (some t138) = some r := H
                  have A17 := Aside0.mk A170
                  clear A170
                  obtain rfl := Option.some.inj H
                  go_wp2_with (first | ((with_reducible refine gate_callee (f := 49) rfl ?_); refine goesL_ (some 41) rfl rfl Tryd.func49 (by kernel_rfl) rfl #[.string t134, .string t136] rfl (by (try simp only [List.map_toArray, List.map_cons, List.map_nil]); first | done | rfl | (simp only [List.length_drop, List.length_take]; rfl)) ?_; (with_reducible refine (big_above.calls t134 t136 t138 _ A17.out).mono ?_); rintro e w18 ⟨rfl, hb⟩; refine ⟨_, rfl, ?_⟩; have n0_ := Aside0.mk (below_step (by repeat (first | (with_reducible first | exact HB.out | apply below_alloc | apply pw_below_drewN | apply below_drew1) | exact HB.out)) hb); clear HB; have HB := n0_; clear n0_; (try clear hb); (try clear hb2); (try clear hk); (try clear hi)))
                  go_ret
                  exact ⟨by first | rfl | (simp [errW_none, errW_some] <;> rfl) | (simp [*, errW_none, errW_some] <;> rfl), by repeat (first | (with_reducible first | exact HB.out | apply below_alloc | apply pw_below_drewN | apply below_drew1) | exact HB.out)⟩

/-! ### targumlaw4_known: function 14 -/
def targumlaw4_known.f (k : Nat)  : Option (Bool) := (big_Norm.f k true (⟨#[48, 48, 55]⟩ : ByteArray)).bind fun t139 => (if t139.toList = ([45, 55] : List UInt8) then ((big_Norm.f k true (⟨#[48, 48]⟩ : ByteArray)).bind fun t140 => (if t140.toList = ([48] : List UInt8) then ((big_Base.f k (⟨#[102, 70]⟩ : ByteArray) 16).bind fun t141 => (if t141.toList = ([50, 53, 53] : List UInt8) then ((big_Base.f k (⟨#[56]⟩ : ByteArray) 8).bind fun t142 => (if t142.toList = ([] : List UInt8) then ((big_MulAdd.f k (⟨#[49, 50]⟩ : ByteArray) 60 5).bind fun t143 => (if t143.toList = ([55, 50, 53] : List UInt8) then ((big_Add.f k (⟨#[49]⟩ : ByteArray) (-2)).bind fun t144 => (if t144.toList = ([45, 49] : List UInt8) then ((big_Add.f k (⟨#[45, 49, 48]⟩ : ByteArray) 1).bind fun t145 => (if t145.toList = ([45, 57] : List UInt8) then ((big_Compare.f k (⟨#[45, 50]⟩ : ByteArray) (⟨#[49]⟩ : ByteArray)).bind fun t146 => (if t146 = (-1) then ((big_Good.f k (⟨#[48]⟩ : ByteArray)).bind fun t147 => (if t147 = true then ((big_Good.f k (⟨#[45, 48]⟩ : ByteArray)).bind fun t148 => (if t148 = true then (some false) else ((big_Good.f k (⟨#[]⟩ : ByteArray)).bind fun t149 => (some (!t149))))) else (some false))) else (some false))) else (some false))) else (some false))) else (some false))) else (some false))) else (some false))) else (some false))) else (some false))
theorem targumlaw4_known.mono : ∀ k, LeO (targumlaw4_known.f k ) (targumlaw4_known.f (k + 1) ) := by
  intro  k
  unfold targumlaw4_known.f
  repeat' first
      | (with_reducible exact big_Add.mono _ _ _)
      | (with_reducible exact big_Base.mono _ _ _)
      | (with_reducible exact big_Compare.mono _ _ _)
      | (with_reducible exact big_Good.mono _ _)
      | (with_reducible exact big_MulAdd.mono _ _ _ _)
      | (with_reducible exact big_Norm.mono _ _ _)
      | (with_reducible exact LeO.refl _)
      | (with_reducible exact LeO.none _)
      | (with_reducible refine LeO.ite ?_ ?_)
      | (with_reducible refine LeO.bind ?_ (fun _ => ?_))
      | exact big_Add.mono _ _ _
      | exact big_Base.mono _ _ _
      | exact big_Compare.mono _ _ _
      | exact big_Good.mono _ _
      | exact big_MulAdd.mono _ _ _ _
      | exact big_Norm.mono _ _ _
      | exact LeO.none _
      | refine LeO.ite ?_ ?_
      | refine LeO.bind ?_ (fun _ => ?_)
set_option maxHeartbeats 8000000 in
set_option maxRecDepth 100000 in
theorem targumlaw4_known.calls (k : Nat)  (r : Bool) (w : World) (hG : Go.Proofs.YtddaggnomcoejaaDoor.Room.PowTab w) (h : targumlaw4_known.f k  = some r) :
    Calls Tryd.prog 14 #[] w fun e w' => e = .returned (.bool r) ∧ Below w.heap.size w w' := by
  have HG := Aside0.mk hG
  clear hG
  have HB := Aside0.mk (Below.refl w.heap.size w)
  have H : ((big_Norm.f k true (⟨#[48, 48, 55]⟩ : ByteArray)).bind fun t139 => (if t139.toList = ([45, 55] : List UInt8) then ((big_Norm.f k true (⟨#[48, 48]⟩ : ByteArray)).bind fun t140 => (if t140.toList = ([48] : List UInt8) then ((big_Base.f k (⟨#[102, 70]⟩ : ByteArray) 16).bind fun t141 => (if t141.toList = ([50, 53, 53] : List UInt8) then ((big_Base.f k (⟨#[56]⟩ : ByteArray) 8).bind fun t142 => (if t142.toList = ([] : List UInt8) then ((big_MulAdd.f k (⟨#[49, 50]⟩ : ByteArray) 60 5).bind fun t143 => (if t143.toList = ([55, 50, 53] : List UInt8) then ((big_Add.f k (⟨#[49]⟩ : ByteArray) (-2)).bind fun t144 => (if t144.toList = ([45, 49] : List UInt8) then ((big_Add.f k (⟨#[45, 49, 48]⟩ : ByteArray) 1).bind fun t145 => (if t145.toList = ([45, 57] : List UInt8) then ((big_Compare.f k (⟨#[45, 50]⟩ : ByteArray) (⟨#[49]⟩ : ByteArray)).bind fun t146 => (if t146 = (-1) then ((big_Good.f k (⟨#[48]⟩ : ByteArray)).bind fun t147 => (if t147 = true then ((big_Good.f k (⟨#[45, 48]⟩ : ByteArray)).bind fun t148 => (if t148 = true then (some false) else ((big_Good.f k (⟨#[]⟩ : ByteArray)).bind fun t149 => (some (!t149))))) else (some false))) else (some false))) else (some false))) else (some false))) else (some false))) else (some false))) else (some false))) else (some false))) else (some false))) = some r := h
  clear h
  replace H := Option.bind_eq_some_iff.mp H
  obtain ⟨t139, A10, H⟩ := H
  replace H : (if t139.toList = ([45, 55] : List UInt8) then ((big_Norm.f k true (⟨#[48, 48]⟩ : ByteArray)).bind fun t140 => (if t140.toList = ([48] : List UInt8) then ((big_Base.f k (⟨#[102, 70]⟩ : ByteArray) 16).bind fun t141 => (if t141.toList = ([50, 53, 53] : List UInt8) then ((big_Base.f k (⟨#[56]⟩ : ByteArray) 8).bind fun t142 => (if t142.toList = ([] : List UInt8) then ((big_MulAdd.f k (⟨#[49, 50]⟩ : ByteArray) 60 5).bind fun t143 => (if t143.toList = ([55, 50, 53] : List UInt8) then ((big_Add.f k (⟨#[49]⟩ : ByteArray) (-2)).bind fun t144 => (if t144.toList = ([45, 49] : List UInt8) then ((big_Add.f k (⟨#[45, 49, 48]⟩ : ByteArray) 1).bind fun t145 => (if t145.toList = ([45, 57] : List UInt8) then ((big_Compare.f k (⟨#[45, 50]⟩ : ByteArray) (⟨#[49]⟩ : ByteArray)).bind fun t146 => (if t146 = (-1) then ((big_Good.f k (⟨#[48]⟩ : ByteArray)).bind fun t147 => (if t147 = true then ((big_Good.f k (⟨#[45, 48]⟩ : ByteArray)).bind fun t148 => (if t148 = true then (some false) else ((big_Good.f k (⟨#[]⟩ : ByteArray)).bind fun t149 => (some (!t149))))) else (some false))) else (some false))) else (some false))) else (some false))) else (some false))) else (some false))) else (some false))) else (some false))) else (some false)) = some r := H
  have A1 := Aside0.mk A10
  clear A10
  by_cases c2 : t139.toList = ([45, 55] : List UInt8)
  · rw [if_pos c2] at H
    have c2b0 : (t139.toList == ([45, 55] : List UInt8)) = true := beq_iff_eq.mpr c2
    have c2b1 : (t139.toList != ([45, 55] : List UInt8)) = false := bne_eq_false_iff_eq.mpr c2
    clear c2
    replace H := Option.bind_eq_some_iff.mp H
    obtain ⟨t140, A30, H⟩ := H
    replace H : (if t140.toList = ([48] : List UInt8) then ((big_Base.f k (⟨#[102, 70]⟩ : ByteArray) 16).bind fun t141 => (if t141.toList = ([50, 53, 53] : List UInt8) then ((big_Base.f k (⟨#[56]⟩ : ByteArray) 8).bind fun t142 => (if t142.toList = ([] : List UInt8) then ((big_MulAdd.f k (⟨#[49, 50]⟩ : ByteArray) 60 5).bind fun t143 => (if t143.toList = ([55, 50, 53] : List UInt8) then ((big_Add.f k (⟨#[49]⟩ : ByteArray) (-2)).bind fun t144 => (if t144.toList = ([45, 49] : List UInt8) then ((big_Add.f k (⟨#[45, 49, 48]⟩ : ByteArray) 1).bind fun t145 => (if t145.toList = ([45, 57] : List UInt8) then ((big_Compare.f k (⟨#[45, 50]⟩ : ByteArray) (⟨#[49]⟩ : ByteArray)).bind fun t146 => (if t146 = (-1) then ((big_Good.f k (⟨#[48]⟩ : ByteArray)).bind fun t147 => (if t147 = true then ((big_Good.f k (⟨#[45, 48]⟩ : ByteArray)).bind fun t148 => (if t148 = true then (some false) else ((big_Good.f k (⟨#[]⟩ : ByteArray)).bind fun t149 => (some (!t149))))) else (some false))) else (some false))) else (some false))) else (some false))) else (some false))) else (some false))) else (some false))) else (some false)) = some r := H
    have A3 := Aside0.mk A30
    clear A30
    by_cases c4 : t140.toList = ([48] : List UInt8)
    · rw [if_pos c4] at H
      have c4b0 : (t140.toList == ([48] : List UInt8)) = true := beq_iff_eq.mpr c4
      have c4b1 : (t140.toList != ([48] : List UInt8)) = false := bne_eq_false_iff_eq.mpr c4
      clear c4
      replace H := Option.bind_eq_some_iff.mp H
      obtain ⟨t141, A50, H⟩ := H
      replace H : (if t141.toList = ([50, 53, 53] : List UInt8) then ((big_Base.f k (⟨#[56]⟩ : ByteArray) 8).bind fun t142 => (if t142.toList = ([] : List UInt8) then ((big_MulAdd.f k (⟨#[49, 50]⟩ : ByteArray) 60 5).bind fun t143 => (if t143.toList = ([55, 50, 53] : List UInt8) then ((big_Add.f k (⟨#[49]⟩ : ByteArray) (-2)).bind fun t144 => (if t144.toList = ([45, 49] : List UInt8) then ((big_Add.f k (⟨#[45, 49, 48]⟩ : ByteArray) 1).bind fun t145 => (if t145.toList = ([45, 57] : List UInt8) then ((big_Compare.f k (⟨#[45, 50]⟩ : ByteArray) (⟨#[49]⟩ : ByteArray)).bind fun t146 => (if t146 = (-1) then ((big_Good.f k (⟨#[48]⟩ : ByteArray)).bind fun t147 => (if t147 = true then ((big_Good.f k (⟨#[45, 48]⟩ : ByteArray)).bind fun t148 => (if t148 = true then (some false) else ((big_Good.f k (⟨#[]⟩ : ByteArray)).bind fun t149 => (some (!t149))))) else (some false))) else (some false))) else (some false))) else (some false))) else (some false))) else (some false))) else (some false)) = some r := H
      have A5 := Aside0.mk A50
      clear A50
      by_cases c6 : t141.toList = ([50, 53, 53] : List UInt8)
      · rw [if_pos c6] at H
        have c6b0 : (t141.toList == ([50, 53, 53] : List UInt8)) = true := beq_iff_eq.mpr c6
        have c6b1 : (t141.toList != ([50, 53, 53] : List UInt8)) = false := bne_eq_false_iff_eq.mpr c6
        clear c6
        replace H := Option.bind_eq_some_iff.mp H
        obtain ⟨t142, A70, H⟩ := H
        replace H : (if t142.toList = ([] : List UInt8) then ((big_MulAdd.f k (⟨#[49, 50]⟩ : ByteArray) 60 5).bind fun t143 => (if t143.toList = ([55, 50, 53] : List UInt8) then ((big_Add.f k (⟨#[49]⟩ : ByteArray) (-2)).bind fun t144 => (if t144.toList = ([45, 49] : List UInt8) then ((big_Add.f k (⟨#[45, 49, 48]⟩ : ByteArray) 1).bind fun t145 => (if t145.toList = ([45, 57] : List UInt8) then ((big_Compare.f k (⟨#[45, 50]⟩ : ByteArray) (⟨#[49]⟩ : ByteArray)).bind fun t146 => (if t146 = (-1) then ((big_Good.f k (⟨#[48]⟩ : ByteArray)).bind fun t147 => (if t147 = true then ((big_Good.f k (⟨#[45, 48]⟩ : ByteArray)).bind fun t148 => (if t148 = true then (some false) else ((big_Good.f k (⟨#[]⟩ : ByteArray)).bind fun t149 => (some (!t149))))) else (some false))) else (some false))) else (some false))) else (some false))) else (some false))) else (some false)) = some r := H
        have A7 := Aside0.mk A70
        clear A70
        by_cases c8 : t142.toList = ([] : List UInt8)
        · rw [if_pos c8] at H
          have c8b0 : (t142.toList == ([] : List UInt8)) = true := beq_iff_eq.mpr c8
          have c8b1 : (t142.toList != ([] : List UInt8)) = false := bne_eq_false_iff_eq.mpr c8
          clear c8
          replace H := Option.bind_eq_some_iff.mp H
          obtain ⟨t143, A90, H⟩ := H
          replace H : (if t143.toList = ([55, 50, 53] : List UInt8) then ((big_Add.f k (⟨#[49]⟩ : ByteArray) (-2)).bind fun t144 => (if t144.toList = ([45, 49] : List UInt8) then ((big_Add.f k (⟨#[45, 49, 48]⟩ : ByteArray) 1).bind fun t145 => (if t145.toList = ([45, 57] : List UInt8) then ((big_Compare.f k (⟨#[45, 50]⟩ : ByteArray) (⟨#[49]⟩ : ByteArray)).bind fun t146 => (if t146 = (-1) then ((big_Good.f k (⟨#[48]⟩ : ByteArray)).bind fun t147 => (if t147 = true then ((big_Good.f k (⟨#[45, 48]⟩ : ByteArray)).bind fun t148 => (if t148 = true then (some false) else ((big_Good.f k (⟨#[]⟩ : ByteArray)).bind fun t149 => (some (!t149))))) else (some false))) else (some false))) else (some false))) else (some false))) else (some false)) = some r := H
          have A9 := Aside0.mk A90
          clear A90
          by_cases c10 : t143.toList = ([55, 50, 53] : List UInt8)
          · rw [if_pos c10] at H
            have c10b0 : (t143.toList == ([55, 50, 53] : List UInt8)) = true := beq_iff_eq.mpr c10
            have c10b1 : (t143.toList != ([55, 50, 53] : List UInt8)) = false := bne_eq_false_iff_eq.mpr c10
            clear c10
            replace H := Option.bind_eq_some_iff.mp H
            obtain ⟨t144, A110, H⟩ := H
            replace H : (if t144.toList = ([45, 49] : List UInt8) then ((big_Add.f k (⟨#[45, 49, 48]⟩ : ByteArray) 1).bind fun t145 => (if t145.toList = ([45, 57] : List UInt8) then ((big_Compare.f k (⟨#[45, 50]⟩ : ByteArray) (⟨#[49]⟩ : ByteArray)).bind fun t146 => (if t146 = (-1) then ((big_Good.f k (⟨#[48]⟩ : ByteArray)).bind fun t147 => (if t147 = true then ((big_Good.f k (⟨#[45, 48]⟩ : ByteArray)).bind fun t148 => (if t148 = true then (some false) else ((big_Good.f k (⟨#[]⟩ : ByteArray)).bind fun t149 => (some (!t149))))) else (some false))) else (some false))) else (some false))) else (some false)) = some r := H
            have A11 := Aside0.mk A110
            clear A110
            by_cases c12 : t144.toList = ([45, 49] : List UInt8)
            · rw [if_pos c12] at H
              have c12b0 : (t144.toList == ([45, 49] : List UInt8)) = true := beq_iff_eq.mpr c12
              have c12b1 : (t144.toList != ([45, 49] : List UInt8)) = false := bne_eq_false_iff_eq.mpr c12
              clear c12
              replace H := Option.bind_eq_some_iff.mp H
              obtain ⟨t145, A130, H⟩ := H
              replace H : (if t145.toList = ([45, 57] : List UInt8) then ((big_Compare.f k (⟨#[45, 50]⟩ : ByteArray) (⟨#[49]⟩ : ByteArray)).bind fun t146 => (if t146 = (-1) then ((big_Good.f k (⟨#[48]⟩ : ByteArray)).bind fun t147 => (if t147 = true then ((big_Good.f k (⟨#[45, 48]⟩ : ByteArray)).bind fun t148 => (if t148 = true then (some false) else ((big_Good.f k (⟨#[]⟩ : ByteArray)).bind fun t149 => (some (!t149))))) else (some false))) else (some false))) else (some false)) = some r := H
              have A13 := Aside0.mk A130
              clear A130
              by_cases c14 : t145.toList = ([45, 57] : List UInt8)
              · rw [if_pos c14] at H
                have c14b0 : (t145.toList == ([45, 57] : List UInt8)) = true := beq_iff_eq.mpr c14
                have c14b1 : (t145.toList != ([45, 57] : List UInt8)) = false := bne_eq_false_iff_eq.mpr c14
                clear c14
                replace H := Option.bind_eq_some_iff.mp H
                obtain ⟨t146, A150, H⟩ := H
                replace H : (if t146 = (-1) then ((big_Good.f k (⟨#[48]⟩ : ByteArray)).bind fun t147 => (if t147 = true then ((big_Good.f k (⟨#[45, 48]⟩ : ByteArray)).bind fun t148 => (if t148 = true then (some false) else ((big_Good.f k (⟨#[]⟩ : ByteArray)).bind fun t149 => (some (!t149))))) else (some false))) else (some false)) = some r := H
                have A15 := Aside0.mk A150
                clear A150
                by_cases c16 : t146 = (-1)
                · rw [if_pos c16] at H
                  have c16b0 : (t146 == (-1)) = true := beq_iff_eq.mpr c16
                  have c16b1 : (t146 != (-1)) = false := bne_eq_false_iff_eq.mpr c16
                  clear c16
                  replace H := Option.bind_eq_some_iff.mp H
                  obtain ⟨t147, A170, H⟩ := H
                  replace H : (if t147 = true then ((big_Good.f k (⟨#[45, 48]⟩ : ByteArray)).bind fun t148 => (if t148 = true then (some false) else ((big_Good.f k (⟨#[]⟩ : ByteArray)).bind fun t149 => (some (!t149))))) else (some false)) = some r := H
                  have A17 := Aside0.mk A170
                  clear A170
                  by_cases c18 : t147 = true
                  · subst c18
                    have H1 : ((big_Good.f k (⟨#[45, 48]⟩ : ByteArray)).bind fun t148 => (if t148 = true then (some false) else ((big_Good.f k (⟨#[]⟩ : ByteArray)).bind fun t149 => (some (!t149))))) = some r := by rw [if_pos rfl] at H; exact H
                    clear H
                    have H := H1
                    clear H1
                    replace H := Option.bind_eq_some_iff.mp H
                    obtain ⟨t148, A190, H⟩ := H
                    replace H : (if t148 = true then (some false) else ((big_Good.f k (⟨#[]⟩ : ByteArray)).bind fun t149 => (some (!t149)))) = some r := H
                    have A19 := Aside0.mk A190
                    clear A190
                    by_cases c20 : t148 = true
                    · subst c20
                      have H1 : (some false) = some r := by rw [if_pos rfl] at H; exact H
                      clear H
                      have H := H1
                      clear H1
                      obtain rfl := Option.some.inj H
                      go_enter Tryd.func14, Tryd.ntmps14
                      go_wp2_with (first | (go_at_call 18; (try (rename_i hK_; simp only [List.append] at hK_)); (with_reducible refine (big_Norm.calls k true (⟨#[48, 48, 55]⟩ : ByteArray) t139 _ A1.out).mono ?_); rintro e w21 ⟨rfl, hb⟩; have n0_ := Aside0.mk (below_step (by repeat (first | (with_reducible first | exact HB.out | apply below_alloc | apply pw_below_drewN | apply below_drew1) | exact HB.out)) hb); clear HB; have HB := n0_; clear n0_; (try clear hb); (try clear hb2); (try clear hk); (try clear hi)) | (go_at_call 18; (try (rename_i hK_; simp only [List.append] at hK_)); (with_reducible refine (big_Norm.calls k true (⟨#[48, 48]⟩ : ByteArray) t140 _ A3.out).mono ?_); rintro e w22 ⟨rfl, hb⟩; have n0_ := Aside0.mk (below_step (by repeat (first | (with_reducible first | exact HB.out | apply below_alloc | apply pw_below_drewN | apply below_drew1) | exact HB.out)) hb); clear HB; have HB := n0_; clear n0_; (try clear hb); (try clear hb2); (try clear hk); (try clear hi)) | (go_at_call 19; (try (rename_i hK_; simp only [List.append] at hK_)); (with_reducible refine (big_Base.calls k (⟨#[102, 70]⟩ : ByteArray) 16 t141 _ ?side1 A5.out).mono ?_); (case side1 => exact Go.Proofs.YtddaggnomcoejaaDoor.Room.PowTab_below HG.out (by repeat (first | (with_reducible first | exact HB.out | apply below_alloc | apply pw_below_drewN | apply below_drew1) | exact HB.out))); rintro e w23 ⟨rfl, hb⟩; have n0_ := Aside0.mk (below_step (by repeat (first | (with_reducible first | exact HB.out | apply below_alloc | apply pw_below_drewN | apply below_drew1) | exact HB.out)) hb); clear HB; have HB := n0_; clear n0_; (try clear hb); (try clear hb2); (try clear hk); (try clear hi)) | (go_at_call 19; (try (rename_i hK_; simp only [List.append] at hK_)); (with_reducible refine (big_Base.calls k (⟨#[56]⟩ : ByteArray) 8 t142 _ ?side1 A7.out).mono ?_); (case side1 => exact Go.Proofs.YtddaggnomcoejaaDoor.Room.PowTab_below HG.out (by repeat (first | (with_reducible first | exact HB.out | apply below_alloc | apply pw_below_drewN | apply below_drew1) | exact HB.out))); rintro e w24 ⟨rfl, hb⟩; have n0_ := Aside0.mk (below_step (by repeat (first | (with_reducible first | exact HB.out | apply below_alloc | apply pw_below_drewN | apply below_drew1) | exact HB.out)) hb); clear HB; have HB := n0_; clear n0_; (try clear hb); (try clear hb2); (try clear hk); (try clear hi)) | (go_at_call 21; (try (rename_i hK_; simp only [List.append] at hK_)); (with_reducible refine (big_MulAdd.calls k (⟨#[49, 50]⟩ : ByteArray) 60 5 t143 _ ?side1 A9.out).mono ?_); (case side1 => exact Go.Proofs.YtddaggnomcoejaaDoor.Room.PowTab_below HG.out (by repeat (first | (with_reducible first | exact HB.out | apply below_alloc | apply pw_below_drewN | apply below_drew1) | exact HB.out))); rintro e w25 ⟨rfl, hb⟩; have n0_ := Aside0.mk (below_step (by repeat (first | (with_reducible first | exact HB.out | apply below_alloc | apply pw_below_drewN | apply below_drew1) | exact HB.out)) hb); clear HB; have HB := n0_; clear n0_; (try clear hb); (try clear hb2); (try clear hk); (try clear hi)) | (go_at_call 23; (try (rename_i hK_; simp only [List.append] at hK_)); (with_reducible refine (big_Add.calls k (⟨#[49]⟩ : ByteArray) (-2) t144 _ ?side1 A11.out).mono ?_); (case side1 => exact Go.Proofs.YtddaggnomcoejaaDoor.Room.PowTab_below HG.out (by repeat (first | (with_reducible first | exact HB.out | apply below_alloc | apply pw_below_drewN | apply below_drew1) | exact HB.out))); rintro e w26 ⟨rfl, hb⟩; have n0_ := Aside0.mk (below_step (by repeat (first | (with_reducible first | exact HB.out | apply below_alloc | apply pw_below_drewN | apply below_drew1) | exact HB.out)) hb); clear HB; have HB := n0_; clear n0_; (try clear hb); (try clear hb2); (try clear hk); (try clear hi)) | (go_at_call 23; (try (rename_i hK_; simp only [List.append] at hK_)); (with_reducible refine (big_Add.calls k (⟨#[45, 49, 48]⟩ : ByteArray) 1 t145 _ ?side1 A13.out).mono ?_); (case side1 => exact Go.Proofs.YtddaggnomcoejaaDoor.Room.PowTab_below HG.out (by repeat (first | (with_reducible first | exact HB.out | apply below_alloc | apply pw_below_drewN | apply below_drew1) | exact HB.out))); rintro e w27 ⟨rfl, hb⟩; have n0_ := Aside0.mk (below_step (by repeat (first | (with_reducible first | exact HB.out | apply below_alloc | apply pw_below_drewN | apply below_drew1) | exact HB.out)) hb); clear HB; have HB := n0_; clear n0_; (try clear hb); (try clear hb2); (try clear hk); (try clear hi)) | (go_at_call 25; (try (rename_i hK_; simp only [List.append] at hK_)); (with_reducible refine (big_Compare.calls k (⟨#[45, 50]⟩ : ByteArray) (⟨#[49]⟩ : ByteArray) t146 _ A15.out).mono ?_); rintro e w28 ⟨rfl, hb⟩; have n0_ := Aside0.mk (below_step (by repeat (first | (with_reducible first | exact HB.out | apply below_alloc | apply pw_below_drewN | apply below_drew1) | exact HB.out)) hb); clear HB; have HB := n0_; clear n0_; (try clear hb); (try clear hb2); (try clear hk); (try clear hi)) | (go_at_call 16; (try (rename_i hK_; simp only [List.append] at hK_)); (with_reducible refine (big_Good.calls k (⟨#[48]⟩ : ByteArray) true _ A17.out).mono ?_); rintro e w' ⟨rfl, ⟨nd, rfl⟩⟩) | (go_at_call 16; (try (rename_i hK_; simp only [List.append] at hK_)); (with_reducible refine (big_Good.calls k (⟨#[45, 48]⟩ : ByteArray) true _ A19.out).mono ?_); rintro e w' ⟨rfl, ⟨nd, rfl⟩⟩))
                      go_ret
                      exact ⟨by first | rfl | (simp [errW_none, errW_some] <;> rfl) | (simp [*, errW_none, errW_some] <;> rfl), by repeat (first | (with_reducible first | exact HB.out | apply below_alloc | apply pw_below_drewN | apply below_drew1) | exact HB.out)⟩
                    · replace c20 := Bool.eq_false_iff.mpr c20
                      subst c20
                      have H1 : ((big_Good.f k (⟨#[]⟩ : ByteArray)).bind fun t149 => (some (!t149))) = some r := by rw [if_neg (show ¬ (false = true) by decide)] at H; exact H
                      clear H
                      have H := H1
                      clear H1
                      replace H := Option.bind_eq_some_iff.mp H
                      obtain ⟨t149, A290, H⟩ := H
                      replace H : (some (!t149)) = some r := H
                      have A29 := Aside0.mk A290
                      clear A290
                      obtain rfl := Option.some.inj H
                      go_enter Tryd.func14, Tryd.ntmps14
                      go_wp2_with (first | (go_at_call 18; (try (rename_i hK_; simp only [List.append] at hK_)); (with_reducible refine (big_Norm.calls k true (⟨#[48, 48, 55]⟩ : ByteArray) t139 _ A1.out).mono ?_); rintro e w30 ⟨rfl, hb⟩; have n0_ := Aside0.mk (below_step (by repeat (first | (with_reducible first | exact HB.out | apply below_alloc | apply pw_below_drewN | apply below_drew1) | exact HB.out)) hb); clear HB; have HB := n0_; clear n0_; (try clear hb); (try clear hb2); (try clear hk); (try clear hi)) | (go_at_call 18; (try (rename_i hK_; simp only [List.append] at hK_)); (with_reducible refine (big_Norm.calls k true (⟨#[48, 48]⟩ : ByteArray) t140 _ A3.out).mono ?_); rintro e w31 ⟨rfl, hb⟩; have n0_ := Aside0.mk (below_step (by repeat (first | (with_reducible first | exact HB.out | apply below_alloc | apply pw_below_drewN | apply below_drew1) | exact HB.out)) hb); clear HB; have HB := n0_; clear n0_; (try clear hb); (try clear hb2); (try clear hk); (try clear hi)) | (go_at_call 19; (try (rename_i hK_; simp only [List.append] at hK_)); (with_reducible refine (big_Base.calls k (⟨#[102, 70]⟩ : ByteArray) 16 t141 _ ?side1 A5.out).mono ?_); (case side1 => exact Go.Proofs.YtddaggnomcoejaaDoor.Room.PowTab_below HG.out (by repeat (first | (with_reducible first | exact HB.out | apply below_alloc | apply pw_below_drewN | apply below_drew1) | exact HB.out))); rintro e w32 ⟨rfl, hb⟩; have n0_ := Aside0.mk (below_step (by repeat (first | (with_reducible first | exact HB.out | apply below_alloc | apply pw_below_drewN | apply below_drew1) | exact HB.out)) hb); clear HB; have HB := n0_; clear n0_; (try clear hb); (try clear hb2); (try clear hk); (try clear hi)) | (go_at_call 19; (try (rename_i hK_; simp only [List.append] at hK_)); (with_reducible refine (big_Base.calls k (⟨#[56]⟩ : ByteArray) 8 t142 _ ?side1 A7.out).mono ?_); (case side1 => exact Go.Proofs.YtddaggnomcoejaaDoor.Room.PowTab_below HG.out (by repeat (first | (with_reducible first | exact HB.out | apply below_alloc | apply pw_below_drewN | apply below_drew1) | exact HB.out))); rintro e w33 ⟨rfl, hb⟩; have n0_ := Aside0.mk (below_step (by repeat (first | (with_reducible first | exact HB.out | apply below_alloc | apply pw_below_drewN | apply below_drew1) | exact HB.out)) hb); clear HB; have HB := n0_; clear n0_; (try clear hb); (try clear hb2); (try clear hk); (try clear hi)) | (go_at_call 21; (try (rename_i hK_; simp only [List.append] at hK_)); (with_reducible refine (big_MulAdd.calls k (⟨#[49, 50]⟩ : ByteArray) 60 5 t143 _ ?side1 A9.out).mono ?_); (case side1 => exact Go.Proofs.YtddaggnomcoejaaDoor.Room.PowTab_below HG.out (by repeat (first | (with_reducible first | exact HB.out | apply below_alloc | apply pw_below_drewN | apply below_drew1) | exact HB.out))); rintro e w34 ⟨rfl, hb⟩; have n0_ := Aside0.mk (below_step (by repeat (first | (with_reducible first | exact HB.out | apply below_alloc | apply pw_below_drewN | apply below_drew1) | exact HB.out)) hb); clear HB; have HB := n0_; clear n0_; (try clear hb); (try clear hb2); (try clear hk); (try clear hi)) | (go_at_call 23; (try (rename_i hK_; simp only [List.append] at hK_)); (with_reducible refine (big_Add.calls k (⟨#[49]⟩ : ByteArray) (-2) t144 _ ?side1 A11.out).mono ?_); (case side1 => exact Go.Proofs.YtddaggnomcoejaaDoor.Room.PowTab_below HG.out (by repeat (first | (with_reducible first | exact HB.out | apply below_alloc | apply pw_below_drewN | apply below_drew1) | exact HB.out))); rintro e w35 ⟨rfl, hb⟩; have n0_ := Aside0.mk (below_step (by repeat (first | (with_reducible first | exact HB.out | apply below_alloc | apply pw_below_drewN | apply below_drew1) | exact HB.out)) hb); clear HB; have HB := n0_; clear n0_; (try clear hb); (try clear hb2); (try clear hk); (try clear hi)) | (go_at_call 23; (try (rename_i hK_; simp only [List.append] at hK_)); (with_reducible refine (big_Add.calls k (⟨#[45, 49, 48]⟩ : ByteArray) 1 t145 _ ?side1 A13.out).mono ?_); (case side1 => exact Go.Proofs.YtddaggnomcoejaaDoor.Room.PowTab_below HG.out (by repeat (first | (with_reducible first | exact HB.out | apply below_alloc | apply pw_below_drewN | apply below_drew1) | exact HB.out))); rintro e w36 ⟨rfl, hb⟩; have n0_ := Aside0.mk (below_step (by repeat (first | (with_reducible first | exact HB.out | apply below_alloc | apply pw_below_drewN | apply below_drew1) | exact HB.out)) hb); clear HB; have HB := n0_; clear n0_; (try clear hb); (try clear hb2); (try clear hk); (try clear hi)) | (go_at_call 25; (try (rename_i hK_; simp only [List.append] at hK_)); (with_reducible refine (big_Compare.calls k (⟨#[45, 50]⟩ : ByteArray) (⟨#[49]⟩ : ByteArray) t146 _ A15.out).mono ?_); rintro e w37 ⟨rfl, hb⟩; have n0_ := Aside0.mk (below_step (by repeat (first | (with_reducible first | exact HB.out | apply below_alloc | apply pw_below_drewN | apply below_drew1) | exact HB.out)) hb); clear HB; have HB := n0_; clear n0_; (try clear hb); (try clear hb2); (try clear hk); (try clear hi)) | (go_at_call 16; (try (rename_i hK_; simp only [List.append] at hK_)); (with_reducible refine (big_Good.calls k (⟨#[48]⟩ : ByteArray) true _ A17.out).mono ?_); rintro e w' ⟨rfl, ⟨nd, rfl⟩⟩) | (go_at_call 16; (try (rename_i hK_; simp only [List.append] at hK_)); (with_reducible refine (big_Good.calls k (⟨#[45, 48]⟩ : ByteArray) false _ A19.out).mono ?_); rintro e w' ⟨rfl, ⟨nd, rfl⟩⟩) | (go_at_call 16; (try (rename_i hK_; simp only [List.append] at hK_)); (with_reducible refine (big_Good.calls k (⟨#[]⟩ : ByteArray) t149 _ A29.out).mono ?_); rintro e w' ⟨rfl, ⟨nd, rfl⟩⟩))
                      go_ret
                      exact ⟨by first | rfl | (simp [errW_none, errW_some] <;> rfl) | (simp [*, errW_none, errW_some] <;> rfl), by repeat (first | (with_reducible first | exact HB.out | apply below_alloc | apply pw_below_drewN | apply below_drew1) | exact HB.out)⟩
                  · replace c18 := Bool.eq_false_iff.mpr c18
                    subst c18
                    have H1 : (some false) = some r := by rw [if_neg (show ¬ (false = true) by decide)] at H; exact H
                    clear H
                    have H := H1
                    clear H1
                    obtain rfl := Option.some.inj H
                    go_enter Tryd.func14, Tryd.ntmps14
                    go_wp2_with (first | (go_at_call 18; (try (rename_i hK_; simp only [List.append] at hK_)); (with_reducible refine (big_Norm.calls k true (⟨#[48, 48, 55]⟩ : ByteArray) t139 _ A1.out).mono ?_); rintro e w38 ⟨rfl, hb⟩; have n0_ := Aside0.mk (below_step (by repeat (first | (with_reducible first | exact HB.out | apply below_alloc | apply pw_below_drewN | apply below_drew1) | exact HB.out)) hb); clear HB; have HB := n0_; clear n0_; (try clear hb); (try clear hb2); (try clear hk); (try clear hi)) | (go_at_call 18; (try (rename_i hK_; simp only [List.append] at hK_)); (with_reducible refine (big_Norm.calls k true (⟨#[48, 48]⟩ : ByteArray) t140 _ A3.out).mono ?_); rintro e w39 ⟨rfl, hb⟩; have n0_ := Aside0.mk (below_step (by repeat (first | (with_reducible first | exact HB.out | apply below_alloc | apply pw_below_drewN | apply below_drew1) | exact HB.out)) hb); clear HB; have HB := n0_; clear n0_; (try clear hb); (try clear hb2); (try clear hk); (try clear hi)) | (go_at_call 19; (try (rename_i hK_; simp only [List.append] at hK_)); (with_reducible refine (big_Base.calls k (⟨#[102, 70]⟩ : ByteArray) 16 t141 _ ?side1 A5.out).mono ?_); (case side1 => exact Go.Proofs.YtddaggnomcoejaaDoor.Room.PowTab_below HG.out (by repeat (first | (with_reducible first | exact HB.out | apply below_alloc | apply pw_below_drewN | apply below_drew1) | exact HB.out))); rintro e w40 ⟨rfl, hb⟩; have n0_ := Aside0.mk (below_step (by repeat (first | (with_reducible first | exact HB.out | apply below_alloc | apply pw_below_drewN | apply below_drew1) | exact HB.out)) hb); clear HB; have HB := n0_; clear n0_; (try clear hb); (try clear hb2); (try clear hk); (try clear hi)) | (go_at_call 19; (try (rename_i hK_; simp only [List.append] at hK_)); (with_reducible refine (big_Base.calls k (⟨#[56]⟩ : ByteArray) 8 t142 _ ?side1 A7.out).mono ?_); (case side1 => exact Go.Proofs.YtddaggnomcoejaaDoor.Room.PowTab_below HG.out (by repeat (first | (with_reducible first | exact HB.out | apply below_alloc | apply pw_below_drewN | apply below_drew1) | exact HB.out))); rintro e w41 ⟨rfl, hb⟩; have n0_ := Aside0.mk (below_step (by repeat (first | (with_reducible first | exact HB.out | apply below_alloc | apply pw_below_drewN | apply below_drew1) | exact HB.out)) hb); clear HB; have HB := n0_; clear n0_; (try clear hb); (try clear hb2); (try clear hk); (try clear hi)) | (go_at_call 21; (try (rename_i hK_; simp only [List.append] at hK_)); (with_reducible refine (big_MulAdd.calls k (⟨#[49, 50]⟩ : ByteArray) 60 5 t143 _ ?side1 A9.out).mono ?_); (case side1 => exact Go.Proofs.YtddaggnomcoejaaDoor.Room.PowTab_below HG.out (by repeat (first | (with_reducible first | exact HB.out | apply below_alloc | apply pw_below_drewN | apply below_drew1) | exact HB.out))); rintro e w42 ⟨rfl, hb⟩; have n0_ := Aside0.mk (below_step (by repeat (first | (with_reducible first | exact HB.out | apply below_alloc | apply pw_below_drewN | apply below_drew1) | exact HB.out)) hb); clear HB; have HB := n0_; clear n0_; (try clear hb); (try clear hb2); (try clear hk); (try clear hi)) | (go_at_call 23; (try (rename_i hK_; simp only [List.append] at hK_)); (with_reducible refine (big_Add.calls k (⟨#[49]⟩ : ByteArray) (-2) t144 _ ?side1 A11.out).mono ?_); (case side1 => exact Go.Proofs.YtddaggnomcoejaaDoor.Room.PowTab_below HG.out (by repeat (first | (with_reducible first | exact HB.out | apply below_alloc | apply pw_below_drewN | apply below_drew1) | exact HB.out))); rintro e w43 ⟨rfl, hb⟩; have n0_ := Aside0.mk (below_step (by repeat (first | (with_reducible first | exact HB.out | apply below_alloc | apply pw_below_drewN | apply below_drew1) | exact HB.out)) hb); clear HB; have HB := n0_; clear n0_; (try clear hb); (try clear hb2); (try clear hk); (try clear hi)) | (go_at_call 23; (try (rename_i hK_; simp only [List.append] at hK_)); (with_reducible refine (big_Add.calls k (⟨#[45, 49, 48]⟩ : ByteArray) 1 t145 _ ?side1 A13.out).mono ?_); (case side1 => exact Go.Proofs.YtddaggnomcoejaaDoor.Room.PowTab_below HG.out (by repeat (first | (with_reducible first | exact HB.out | apply below_alloc | apply pw_below_drewN | apply below_drew1) | exact HB.out))); rintro e w44 ⟨rfl, hb⟩; have n0_ := Aside0.mk (below_step (by repeat (first | (with_reducible first | exact HB.out | apply below_alloc | apply pw_below_drewN | apply below_drew1) | exact HB.out)) hb); clear HB; have HB := n0_; clear n0_; (try clear hb); (try clear hb2); (try clear hk); (try clear hi)) | (go_at_call 25; (try (rename_i hK_; simp only [List.append] at hK_)); (with_reducible refine (big_Compare.calls k (⟨#[45, 50]⟩ : ByteArray) (⟨#[49]⟩ : ByteArray) t146 _ A15.out).mono ?_); rintro e w45 ⟨rfl, hb⟩; have n0_ := Aside0.mk (below_step (by repeat (first | (with_reducible first | exact HB.out | apply below_alloc | apply pw_below_drewN | apply below_drew1) | exact HB.out)) hb); clear HB; have HB := n0_; clear n0_; (try clear hb); (try clear hb2); (try clear hk); (try clear hi)) | (go_at_call 16; (try (rename_i hK_; simp only [List.append] at hK_)); (with_reducible refine (big_Good.calls k (⟨#[48]⟩ : ByteArray) false _ A17.out).mono ?_); rintro e w' ⟨rfl, ⟨nd, rfl⟩⟩))
                    go_ret
                    exact ⟨by first | rfl | (simp [errW_none, errW_some] <;> rfl) | (simp [*, errW_none, errW_some] <;> rfl), by repeat (first | (with_reducible first | exact HB.out | apply below_alloc | apply pw_below_drewN | apply below_drew1) | exact HB.out)⟩
                · rw [if_neg c16] at H
                  have c16b0 : (t146 == (-1)) = false := beq_eq_false_iff_ne.mpr c16
                  have c16b1 : (t146 != (-1)) = true := bne_iff_ne.mpr c16
                  obtain rfl := Option.some.inj H
                  go_enter Tryd.func14, Tryd.ntmps14
                  go_wp2_with (first | (go_at_call 18; (try (rename_i hK_; simp only [List.append] at hK_)); (with_reducible refine (big_Norm.calls k true (⟨#[48, 48, 55]⟩ : ByteArray) t139 _ A1.out).mono ?_); rintro e w46 ⟨rfl, hb⟩; have n0_ := Aside0.mk (below_step (by repeat (first | (with_reducible first | exact HB.out | apply below_alloc | apply pw_below_drewN | apply below_drew1) | exact HB.out)) hb); clear HB; have HB := n0_; clear n0_; (try clear hb); (try clear hb2); (try clear hk); (try clear hi)) | (go_at_call 18; (try (rename_i hK_; simp only [List.append] at hK_)); (with_reducible refine (big_Norm.calls k true (⟨#[48, 48]⟩ : ByteArray) t140 _ A3.out).mono ?_); rintro e w47 ⟨rfl, hb⟩; have n0_ := Aside0.mk (below_step (by repeat (first | (with_reducible first | exact HB.out | apply below_alloc | apply pw_below_drewN | apply below_drew1) | exact HB.out)) hb); clear HB; have HB := n0_; clear n0_; (try clear hb); (try clear hb2); (try clear hk); (try clear hi)) | (go_at_call 19; (try (rename_i hK_; simp only [List.append] at hK_)); (with_reducible refine (big_Base.calls k (⟨#[102, 70]⟩ : ByteArray) 16 t141 _ ?side1 A5.out).mono ?_); (case side1 => exact Go.Proofs.YtddaggnomcoejaaDoor.Room.PowTab_below HG.out (by repeat (first | (with_reducible first | exact HB.out | apply below_alloc | apply pw_below_drewN | apply below_drew1) | exact HB.out))); rintro e w48 ⟨rfl, hb⟩; have n0_ := Aside0.mk (below_step (by repeat (first | (with_reducible first | exact HB.out | apply below_alloc | apply pw_below_drewN | apply below_drew1) | exact HB.out)) hb); clear HB; have HB := n0_; clear n0_; (try clear hb); (try clear hb2); (try clear hk); (try clear hi)) | (go_at_call 19; (try (rename_i hK_; simp only [List.append] at hK_)); (with_reducible refine (big_Base.calls k (⟨#[56]⟩ : ByteArray) 8 t142 _ ?side1 A7.out).mono ?_); (case side1 => exact Go.Proofs.YtddaggnomcoejaaDoor.Room.PowTab_below HG.out (by repeat (first | (with_reducible first | exact HB.out | apply below_alloc | apply pw_below_drewN | apply below_drew1) | exact HB.out))); rintro e w49 ⟨rfl, hb⟩; have n0_ := Aside0.mk (below_step (by repeat (first | (with_reducible first | exact HB.out | apply below_alloc | apply pw_below_drewN | apply below_drew1) | exact HB.out)) hb); clear HB; have HB := n0_; clear n0_; (try clear hb); (try clear hb2); (try clear hk); (try clear hi)) | (go_at_call 21; (try (rename_i hK_; simp only [List.append] at hK_)); (with_reducible refine (big_MulAdd.calls k (⟨#[49, 50]⟩ : ByteArray) 60 5 t143 _ ?side1 A9.out).mono ?_); (case side1 => exact Go.Proofs.YtddaggnomcoejaaDoor.Room.PowTab_below HG.out (by repeat (first | (with_reducible first | exact HB.out | apply below_alloc | apply pw_below_drewN | apply below_drew1) | exact HB.out))); rintro e w50 ⟨rfl, hb⟩; have n0_ := Aside0.mk (below_step (by repeat (first | (with_reducible first | exact HB.out | apply below_alloc | apply pw_below_drewN | apply below_drew1) | exact HB.out)) hb); clear HB; have HB := n0_; clear n0_; (try clear hb); (try clear hb2); (try clear hk); (try clear hi)) | (go_at_call 23; (try (rename_i hK_; simp only [List.append] at hK_)); (with_reducible refine (big_Add.calls k (⟨#[49]⟩ : ByteArray) (-2) t144 _ ?side1 A11.out).mono ?_); (case side1 => exact Go.Proofs.YtddaggnomcoejaaDoor.Room.PowTab_below HG.out (by repeat (first | (with_reducible first | exact HB.out | apply below_alloc | apply pw_below_drewN | apply below_drew1) | exact HB.out))); rintro e w51 ⟨rfl, hb⟩; have n0_ := Aside0.mk (below_step (by repeat (first | (with_reducible first | exact HB.out | apply below_alloc | apply pw_below_drewN | apply below_drew1) | exact HB.out)) hb); clear HB; have HB := n0_; clear n0_; (try clear hb); (try clear hb2); (try clear hk); (try clear hi)) | (go_at_call 23; (try (rename_i hK_; simp only [List.append] at hK_)); (with_reducible refine (big_Add.calls k (⟨#[45, 49, 48]⟩ : ByteArray) 1 t145 _ ?side1 A13.out).mono ?_); (case side1 => exact Go.Proofs.YtddaggnomcoejaaDoor.Room.PowTab_below HG.out (by repeat (first | (with_reducible first | exact HB.out | apply below_alloc | apply pw_below_drewN | apply below_drew1) | exact HB.out))); rintro e w52 ⟨rfl, hb⟩; have n0_ := Aside0.mk (below_step (by repeat (first | (with_reducible first | exact HB.out | apply below_alloc | apply pw_below_drewN | apply below_drew1) | exact HB.out)) hb); clear HB; have HB := n0_; clear n0_; (try clear hb); (try clear hb2); (try clear hk); (try clear hi)) | (go_at_call 25; (try (rename_i hK_; simp only [List.append] at hK_)); (with_reducible refine (big_Compare.calls k (⟨#[45, 50]⟩ : ByteArray) (⟨#[49]⟩ : ByteArray) t146 _ A15.out).mono ?_); rintro e w53 ⟨rfl, hb⟩; have n0_ := Aside0.mk (below_step (by repeat (first | (with_reducible first | exact HB.out | apply below_alloc | apply pw_below_drewN | apply below_drew1) | exact HB.out)) hb); clear HB; have HB := n0_; clear n0_; (try clear hb); (try clear hb2); (try clear hk); (try clear hi)))
                  go_ret
                  exact ⟨by first | rfl | (simp [errW_none, errW_some] <;> rfl) | (simp [*, errW_none, errW_some] <;> rfl), by repeat (first | (with_reducible first | exact HB.out | apply below_alloc | apply pw_below_drewN | apply below_drew1) | exact HB.out)⟩
              · rw [if_neg c14] at H
                have c14b0 : (t145.toList == ([45, 57] : List UInt8)) = false := beq_eq_false_iff_ne.mpr c14
                have c14b1 : (t145.toList != ([45, 57] : List UInt8)) = true := bne_iff_ne.mpr c14
                obtain rfl := Option.some.inj H
                go_enter Tryd.func14, Tryd.ntmps14
                go_wp2_with (first | (go_at_call 18; (try (rename_i hK_; simp only [List.append] at hK_)); (with_reducible refine (big_Norm.calls k true (⟨#[48, 48, 55]⟩ : ByteArray) t139 _ A1.out).mono ?_); rintro e w54 ⟨rfl, hb⟩; have n0_ := Aside0.mk (below_step (by repeat (first | (with_reducible first | exact HB.out | apply below_alloc | apply pw_below_drewN | apply below_drew1) | exact HB.out)) hb); clear HB; have HB := n0_; clear n0_; (try clear hb); (try clear hb2); (try clear hk); (try clear hi)) | (go_at_call 18; (try (rename_i hK_; simp only [List.append] at hK_)); (with_reducible refine (big_Norm.calls k true (⟨#[48, 48]⟩ : ByteArray) t140 _ A3.out).mono ?_); rintro e w55 ⟨rfl, hb⟩; have n0_ := Aside0.mk (below_step (by repeat (first | (with_reducible first | exact HB.out | apply below_alloc | apply pw_below_drewN | apply below_drew1) | exact HB.out)) hb); clear HB; have HB := n0_; clear n0_; (try clear hb); (try clear hb2); (try clear hk); (try clear hi)) | (go_at_call 19; (try (rename_i hK_; simp only [List.append] at hK_)); (with_reducible refine (big_Base.calls k (⟨#[102, 70]⟩ : ByteArray) 16 t141 _ ?side1 A5.out).mono ?_); (case side1 => exact Go.Proofs.YtddaggnomcoejaaDoor.Room.PowTab_below HG.out (by repeat (first | (with_reducible first | exact HB.out | apply below_alloc | apply pw_below_drewN | apply below_drew1) | exact HB.out))); rintro e w56 ⟨rfl, hb⟩; have n0_ := Aside0.mk (below_step (by repeat (first | (with_reducible first | exact HB.out | apply below_alloc | apply pw_below_drewN | apply below_drew1) | exact HB.out)) hb); clear HB; have HB := n0_; clear n0_; (try clear hb); (try clear hb2); (try clear hk); (try clear hi)) | (go_at_call 19; (try (rename_i hK_; simp only [List.append] at hK_)); (with_reducible refine (big_Base.calls k (⟨#[56]⟩ : ByteArray) 8 t142 _ ?side1 A7.out).mono ?_); (case side1 => exact Go.Proofs.YtddaggnomcoejaaDoor.Room.PowTab_below HG.out (by repeat (first | (with_reducible first | exact HB.out | apply below_alloc | apply pw_below_drewN | apply below_drew1) | exact HB.out))); rintro e w57 ⟨rfl, hb⟩; have n0_ := Aside0.mk (below_step (by repeat (first | (with_reducible first | exact HB.out | apply below_alloc | apply pw_below_drewN | apply below_drew1) | exact HB.out)) hb); clear HB; have HB := n0_; clear n0_; (try clear hb); (try clear hb2); (try clear hk); (try clear hi)) | (go_at_call 21; (try (rename_i hK_; simp only [List.append] at hK_)); (with_reducible refine (big_MulAdd.calls k (⟨#[49, 50]⟩ : ByteArray) 60 5 t143 _ ?side1 A9.out).mono ?_); (case side1 => exact Go.Proofs.YtddaggnomcoejaaDoor.Room.PowTab_below HG.out (by repeat (first | (with_reducible first | exact HB.out | apply below_alloc | apply pw_below_drewN | apply below_drew1) | exact HB.out))); rintro e w58 ⟨rfl, hb⟩; have n0_ := Aside0.mk (below_step (by repeat (first | (with_reducible first | exact HB.out | apply below_alloc | apply pw_below_drewN | apply below_drew1) | exact HB.out)) hb); clear HB; have HB := n0_; clear n0_; (try clear hb); (try clear hb2); (try clear hk); (try clear hi)) | (go_at_call 23; (try (rename_i hK_; simp only [List.append] at hK_)); (with_reducible refine (big_Add.calls k (⟨#[49]⟩ : ByteArray) (-2) t144 _ ?side1 A11.out).mono ?_); (case side1 => exact Go.Proofs.YtddaggnomcoejaaDoor.Room.PowTab_below HG.out (by repeat (first | (with_reducible first | exact HB.out | apply below_alloc | apply pw_below_drewN | apply below_drew1) | exact HB.out))); rintro e w59 ⟨rfl, hb⟩; have n0_ := Aside0.mk (below_step (by repeat (first | (with_reducible first | exact HB.out | apply below_alloc | apply pw_below_drewN | apply below_drew1) | exact HB.out)) hb); clear HB; have HB := n0_; clear n0_; (try clear hb); (try clear hb2); (try clear hk); (try clear hi)) | (go_at_call 23; (try (rename_i hK_; simp only [List.append] at hK_)); (with_reducible refine (big_Add.calls k (⟨#[45, 49, 48]⟩ : ByteArray) 1 t145 _ ?side1 A13.out).mono ?_); (case side1 => exact Go.Proofs.YtddaggnomcoejaaDoor.Room.PowTab_below HG.out (by repeat (first | (with_reducible first | exact HB.out | apply below_alloc | apply pw_below_drewN | apply below_drew1) | exact HB.out))); rintro e w60 ⟨rfl, hb⟩; have n0_ := Aside0.mk (below_step (by repeat (first | (with_reducible first | exact HB.out | apply below_alloc | apply pw_below_drewN | apply below_drew1) | exact HB.out)) hb); clear HB; have HB := n0_; clear n0_; (try clear hb); (try clear hb2); (try clear hk); (try clear hi)))
                go_ret
                exact ⟨by first | rfl | (simp [errW_none, errW_some] <;> rfl) | (simp [*, errW_none, errW_some] <;> rfl), by repeat (first | (with_reducible first | exact HB.out | apply below_alloc | apply pw_below_drewN | apply below_drew1) | exact HB.out)⟩
            · rw [if_neg c12] at H
              have c12b0 : (t144.toList == ([45, 49] : List UInt8)) = false := beq_eq_false_iff_ne.mpr c12
              have c12b1 : (t144.toList != ([45, 49] : List UInt8)) = true := bne_iff_ne.mpr c12
              obtain rfl := Option.some.inj H
              go_enter Tryd.func14, Tryd.ntmps14
              go_wp2_with (first | (go_at_call 18; (try (rename_i hK_; simp only [List.append] at hK_)); (with_reducible refine (big_Norm.calls k true (⟨#[48, 48, 55]⟩ : ByteArray) t139 _ A1.out).mono ?_); rintro e w61 ⟨rfl, hb⟩; have n0_ := Aside0.mk (below_step (by repeat (first | (with_reducible first | exact HB.out | apply below_alloc | apply pw_below_drewN | apply below_drew1) | exact HB.out)) hb); clear HB; have HB := n0_; clear n0_; (try clear hb); (try clear hb2); (try clear hk); (try clear hi)) | (go_at_call 18; (try (rename_i hK_; simp only [List.append] at hK_)); (with_reducible refine (big_Norm.calls k true (⟨#[48, 48]⟩ : ByteArray) t140 _ A3.out).mono ?_); rintro e w62 ⟨rfl, hb⟩; have n0_ := Aside0.mk (below_step (by repeat (first | (with_reducible first | exact HB.out | apply below_alloc | apply pw_below_drewN | apply below_drew1) | exact HB.out)) hb); clear HB; have HB := n0_; clear n0_; (try clear hb); (try clear hb2); (try clear hk); (try clear hi)) | (go_at_call 19; (try (rename_i hK_; simp only [List.append] at hK_)); (with_reducible refine (big_Base.calls k (⟨#[102, 70]⟩ : ByteArray) 16 t141 _ ?side1 A5.out).mono ?_); (case side1 => exact Go.Proofs.YtddaggnomcoejaaDoor.Room.PowTab_below HG.out (by repeat (first | (with_reducible first | exact HB.out | apply below_alloc | apply pw_below_drewN | apply below_drew1) | exact HB.out))); rintro e w63 ⟨rfl, hb⟩; have n0_ := Aside0.mk (below_step (by repeat (first | (with_reducible first | exact HB.out | apply below_alloc | apply pw_below_drewN | apply below_drew1) | exact HB.out)) hb); clear HB; have HB := n0_; clear n0_; (try clear hb); (try clear hb2); (try clear hk); (try clear hi)) | (go_at_call 19; (try (rename_i hK_; simp only [List.append] at hK_)); (with_reducible refine (big_Base.calls k (⟨#[56]⟩ : ByteArray) 8 t142 _ ?side1 A7.out).mono ?_); (case side1 => exact Go.Proofs.YtddaggnomcoejaaDoor.Room.PowTab_below HG.out (by repeat (first | (with_reducible first | exact HB.out | apply below_alloc | apply pw_below_drewN | apply below_drew1) | exact HB.out))); rintro e w64 ⟨rfl, hb⟩; have n0_ := Aside0.mk (below_step (by repeat (first | (with_reducible first | exact HB.out | apply below_alloc | apply pw_below_drewN | apply below_drew1) | exact HB.out)) hb); clear HB; have HB := n0_; clear n0_; (try clear hb); (try clear hb2); (try clear hk); (try clear hi)) | (go_at_call 21; (try (rename_i hK_; simp only [List.append] at hK_)); (with_reducible refine (big_MulAdd.calls k (⟨#[49, 50]⟩ : ByteArray) 60 5 t143 _ ?side1 A9.out).mono ?_); (case side1 => exact Go.Proofs.YtddaggnomcoejaaDoor.Room.PowTab_below HG.out (by repeat (first | (with_reducible first | exact HB.out | apply below_alloc | apply pw_below_drewN | apply below_drew1) | exact HB.out))); rintro e w65 ⟨rfl, hb⟩; have n0_ := Aside0.mk (below_step (by repeat (first | (with_reducible first | exact HB.out | apply below_alloc | apply pw_below_drewN | apply below_drew1) | exact HB.out)) hb); clear HB; have HB := n0_; clear n0_; (try clear hb); (try clear hb2); (try clear hk); (try clear hi)) | (go_at_call 23; (try (rename_i hK_; simp only [List.append] at hK_)); (with_reducible refine (big_Add.calls k (⟨#[49]⟩ : ByteArray) (-2) t144 _ ?side1 A11.out).mono ?_); (case side1 => exact Go.Proofs.YtddaggnomcoejaaDoor.Room.PowTab_below HG.out (by repeat (first | (with_reducible first | exact HB.out | apply below_alloc | apply pw_below_drewN | apply below_drew1) | exact HB.out))); rintro e w66 ⟨rfl, hb⟩; have n0_ := Aside0.mk (below_step (by repeat (first | (with_reducible first | exact HB.out | apply below_alloc | apply pw_below_drewN | apply below_drew1) | exact HB.out)) hb); clear HB; have HB := n0_; clear n0_; (try clear hb); (try clear hb2); (try clear hk); (try clear hi)))
              go_ret
              exact ⟨by first | rfl | (simp [errW_none, errW_some] <;> rfl) | (simp [*, errW_none, errW_some] <;> rfl), by repeat (first | (with_reducible first | exact HB.out | apply below_alloc | apply pw_below_drewN | apply below_drew1) | exact HB.out)⟩
          · rw [if_neg c10] at H
            have c10b0 : (t143.toList == ([55, 50, 53] : List UInt8)) = false := beq_eq_false_iff_ne.mpr c10
            have c10b1 : (t143.toList != ([55, 50, 53] : List UInt8)) = true := bne_iff_ne.mpr c10
            obtain rfl := Option.some.inj H
            go_enter Tryd.func14, Tryd.ntmps14
            go_wp2_with (first | (go_at_call 18; (try (rename_i hK_; simp only [List.append] at hK_)); (with_reducible refine (big_Norm.calls k true (⟨#[48, 48, 55]⟩ : ByteArray) t139 _ A1.out).mono ?_); rintro e w67 ⟨rfl, hb⟩; have n0_ := Aside0.mk (below_step (by repeat (first | (with_reducible first | exact HB.out | apply below_alloc | apply pw_below_drewN | apply below_drew1) | exact HB.out)) hb); clear HB; have HB := n0_; clear n0_; (try clear hb); (try clear hb2); (try clear hk); (try clear hi)) | (go_at_call 18; (try (rename_i hK_; simp only [List.append] at hK_)); (with_reducible refine (big_Norm.calls k true (⟨#[48, 48]⟩ : ByteArray) t140 _ A3.out).mono ?_); rintro e w68 ⟨rfl, hb⟩; have n0_ := Aside0.mk (below_step (by repeat (first | (with_reducible first | exact HB.out | apply below_alloc | apply pw_below_drewN | apply below_drew1) | exact HB.out)) hb); clear HB; have HB := n0_; clear n0_; (try clear hb); (try clear hb2); (try clear hk); (try clear hi)) | (go_at_call 19; (try (rename_i hK_; simp only [List.append] at hK_)); (with_reducible refine (big_Base.calls k (⟨#[102, 70]⟩ : ByteArray) 16 t141 _ ?side1 A5.out).mono ?_); (case side1 => exact Go.Proofs.YtddaggnomcoejaaDoor.Room.PowTab_below HG.out (by repeat (first | (with_reducible first | exact HB.out | apply below_alloc | apply pw_below_drewN | apply below_drew1) | exact HB.out))); rintro e w69 ⟨rfl, hb⟩; have n0_ := Aside0.mk (below_step (by repeat (first | (with_reducible first | exact HB.out | apply below_alloc | apply pw_below_drewN | apply below_drew1) | exact HB.out)) hb); clear HB; have HB := n0_; clear n0_; (try clear hb); (try clear hb2); (try clear hk); (try clear hi)) | (go_at_call 19; (try (rename_i hK_; simp only [List.append] at hK_)); (with_reducible refine (big_Base.calls k (⟨#[56]⟩ : ByteArray) 8 t142 _ ?side1 A7.out).mono ?_); (case side1 => exact Go.Proofs.YtddaggnomcoejaaDoor.Room.PowTab_below HG.out (by repeat (first | (with_reducible first | exact HB.out | apply below_alloc | apply pw_below_drewN | apply below_drew1) | exact HB.out))); rintro e w70 ⟨rfl, hb⟩; have n0_ := Aside0.mk (below_step (by repeat (first | (with_reducible first | exact HB.out | apply below_alloc | apply pw_below_drewN | apply below_drew1) | exact HB.out)) hb); clear HB; have HB := n0_; clear n0_; (try clear hb); (try clear hb2); (try clear hk); (try clear hi)) | (go_at_call 21; (try (rename_i hK_; simp only [List.append] at hK_)); (with_reducible refine (big_MulAdd.calls k (⟨#[49, 50]⟩ : ByteArray) 60 5 t143 _ ?side1 A9.out).mono ?_); (case side1 => exact Go.Proofs.YtddaggnomcoejaaDoor.Room.PowTab_below HG.out (by repeat (first | (with_reducible first | exact HB.out | apply below_alloc | apply pw_below_drewN | apply below_drew1) | exact HB.out))); rintro e w71 ⟨rfl, hb⟩; have n0_ := Aside0.mk (below_step (by repeat (first | (with_reducible first | exact HB.out | apply below_alloc | apply pw_below_drewN | apply below_drew1) | exact HB.out)) hb); clear HB; have HB := n0_; clear n0_; (try clear hb); (try clear hb2); (try clear hk); (try clear hi)))
            go_ret
            exact ⟨by first | rfl | (simp [errW_none, errW_some] <;> rfl) | (simp [*, errW_none, errW_some] <;> rfl), by repeat (first | (with_reducible first | exact HB.out | apply below_alloc | apply pw_below_drewN | apply below_drew1) | exact HB.out)⟩
        · rw [if_neg c8] at H
          have c8b0 : (t142.toList == ([] : List UInt8)) = false := beq_eq_false_iff_ne.mpr c8
          have c8b1 : (t142.toList != ([] : List UInt8)) = true := bne_iff_ne.mpr c8
          obtain rfl := Option.some.inj H
          go_enter Tryd.func14, Tryd.ntmps14
          go_wp2_with (first | (go_at_call 18; (try (rename_i hK_; simp only [List.append] at hK_)); (with_reducible refine (big_Norm.calls k true (⟨#[48, 48, 55]⟩ : ByteArray) t139 _ A1.out).mono ?_); rintro e w72 ⟨rfl, hb⟩; have n0_ := Aside0.mk (below_step (by repeat (first | (with_reducible first | exact HB.out | apply below_alloc | apply pw_below_drewN | apply below_drew1) | exact HB.out)) hb); clear HB; have HB := n0_; clear n0_; (try clear hb); (try clear hb2); (try clear hk); (try clear hi)) | (go_at_call 18; (try (rename_i hK_; simp only [List.append] at hK_)); (with_reducible refine (big_Norm.calls k true (⟨#[48, 48]⟩ : ByteArray) t140 _ A3.out).mono ?_); rintro e w73 ⟨rfl, hb⟩; have n0_ := Aside0.mk (below_step (by repeat (first | (with_reducible first | exact HB.out | apply below_alloc | apply pw_below_drewN | apply below_drew1) | exact HB.out)) hb); clear HB; have HB := n0_; clear n0_; (try clear hb); (try clear hb2); (try clear hk); (try clear hi)) | (go_at_call 19; (try (rename_i hK_; simp only [List.append] at hK_)); (with_reducible refine (big_Base.calls k (⟨#[102, 70]⟩ : ByteArray) 16 t141 _ ?side1 A5.out).mono ?_); (case side1 => exact Go.Proofs.YtddaggnomcoejaaDoor.Room.PowTab_below HG.out (by repeat (first | (with_reducible first | exact HB.out | apply below_alloc | apply pw_below_drewN | apply below_drew1) | exact HB.out))); rintro e w74 ⟨rfl, hb⟩; have n0_ := Aside0.mk (below_step (by repeat (first | (with_reducible first | exact HB.out | apply below_alloc | apply pw_below_drewN | apply below_drew1) | exact HB.out)) hb); clear HB; have HB := n0_; clear n0_; (try clear hb); (try clear hb2); (try clear hk); (try clear hi)) | (go_at_call 19; (try (rename_i hK_; simp only [List.append] at hK_)); (with_reducible refine (big_Base.calls k (⟨#[56]⟩ : ByteArray) 8 t142 _ ?side1 A7.out).mono ?_); (case side1 => exact Go.Proofs.YtddaggnomcoejaaDoor.Room.PowTab_below HG.out (by repeat (first | (with_reducible first | exact HB.out | apply below_alloc | apply pw_below_drewN | apply below_drew1) | exact HB.out))); rintro e w75 ⟨rfl, hb⟩; have n0_ := Aside0.mk (below_step (by repeat (first | (with_reducible first | exact HB.out | apply below_alloc | apply pw_below_drewN | apply below_drew1) | exact HB.out)) hb); clear HB; have HB := n0_; clear n0_; (try clear hb); (try clear hb2); (try clear hk); (try clear hi)))
          go_ret
          exact ⟨by first | rfl | (simp [errW_none, errW_some] <;> rfl) | (simp [*, errW_none, errW_some] <;> rfl), by repeat (first | (with_reducible first | exact HB.out | apply below_alloc | apply pw_below_drewN | apply below_drew1) | exact HB.out)⟩
      · rw [if_neg c6] at H
        have c6b0 : (t141.toList == ([50, 53, 53] : List UInt8)) = false := beq_eq_false_iff_ne.mpr c6
        have c6b1 : (t141.toList != ([50, 53, 53] : List UInt8)) = true := bne_iff_ne.mpr c6
        obtain rfl := Option.some.inj H
        go_enter Tryd.func14, Tryd.ntmps14
        go_wp2_with (first | (go_at_call 18; (try (rename_i hK_; simp only [List.append] at hK_)); (with_reducible refine (big_Norm.calls k true (⟨#[48, 48, 55]⟩ : ByteArray) t139 _ A1.out).mono ?_); rintro e w76 ⟨rfl, hb⟩; have n0_ := Aside0.mk (below_step (by repeat (first | (with_reducible first | exact HB.out | apply below_alloc | apply pw_below_drewN | apply below_drew1) | exact HB.out)) hb); clear HB; have HB := n0_; clear n0_; (try clear hb); (try clear hb2); (try clear hk); (try clear hi)) | (go_at_call 18; (try (rename_i hK_; simp only [List.append] at hK_)); (with_reducible refine (big_Norm.calls k true (⟨#[48, 48]⟩ : ByteArray) t140 _ A3.out).mono ?_); rintro e w77 ⟨rfl, hb⟩; have n0_ := Aside0.mk (below_step (by repeat (first | (with_reducible first | exact HB.out | apply below_alloc | apply pw_below_drewN | apply below_drew1) | exact HB.out)) hb); clear HB; have HB := n0_; clear n0_; (try clear hb); (try clear hb2); (try clear hk); (try clear hi)) | (go_at_call 19; (try (rename_i hK_; simp only [List.append] at hK_)); (with_reducible refine (big_Base.calls k (⟨#[102, 70]⟩ : ByteArray) 16 t141 _ ?side1 A5.out).mono ?_); (case side1 => exact Go.Proofs.YtddaggnomcoejaaDoor.Room.PowTab_below HG.out (by repeat (first | (with_reducible first | exact HB.out | apply below_alloc | apply pw_below_drewN | apply below_drew1) | exact HB.out))); rintro e w78 ⟨rfl, hb⟩; have n0_ := Aside0.mk (below_step (by repeat (first | (with_reducible first | exact HB.out | apply below_alloc | apply pw_below_drewN | apply below_drew1) | exact HB.out)) hb); clear HB; have HB := n0_; clear n0_; (try clear hb); (try clear hb2); (try clear hk); (try clear hi)))
        go_ret
        exact ⟨by first | rfl | (simp [errW_none, errW_some] <;> rfl) | (simp [*, errW_none, errW_some] <;> rfl), by repeat (first | (with_reducible first | exact HB.out | apply below_alloc | apply pw_below_drewN | apply below_drew1) | exact HB.out)⟩
    · rw [if_neg c4] at H
      have c4b0 : (t140.toList == ([48] : List UInt8)) = false := beq_eq_false_iff_ne.mpr c4
      have c4b1 : (t140.toList != ([48] : List UInt8)) = true := bne_iff_ne.mpr c4
      obtain rfl := Option.some.inj H
      go_enter Tryd.func14, Tryd.ntmps14
      go_wp2_with (first | (go_at_call 18; (try (rename_i hK_; simp only [List.append] at hK_)); (with_reducible refine (big_Norm.calls k true (⟨#[48, 48, 55]⟩ : ByteArray) t139 _ A1.out).mono ?_); rintro e w79 ⟨rfl, hb⟩; have n0_ := Aside0.mk (below_step (by repeat (first | (with_reducible first | exact HB.out | apply below_alloc | apply pw_below_drewN | apply below_drew1) | exact HB.out)) hb); clear HB; have HB := n0_; clear n0_; (try clear hb); (try clear hb2); (try clear hk); (try clear hi)) | (go_at_call 18; (try (rename_i hK_; simp only [List.append] at hK_)); (with_reducible refine (big_Norm.calls k true (⟨#[48, 48]⟩ : ByteArray) t140 _ A3.out).mono ?_); rintro e w80 ⟨rfl, hb⟩; have n0_ := Aside0.mk (below_step (by repeat (first | (with_reducible first | exact HB.out | apply below_alloc | apply pw_below_drewN | apply below_drew1) | exact HB.out)) hb); clear HB; have HB := n0_; clear n0_; (try clear hb); (try clear hb2); (try clear hk); (try clear hi)))
      go_ret
      exact ⟨by first | rfl | (simp [errW_none, errW_some] <;> rfl) | (simp [*, errW_none, errW_some] <;> rfl), by repeat (first | (with_reducible first | exact HB.out | apply below_alloc | apply pw_below_drewN | apply below_drew1) | exact HB.out)⟩
  · rw [if_neg c2] at H
    have c2b0 : (t139.toList == ([45, 55] : List UInt8)) = false := beq_eq_false_iff_ne.mpr c2
    have c2b1 : (t139.toList != ([45, 55] : List UInt8)) = true := bne_iff_ne.mpr c2
    obtain rfl := Option.some.inj H
    go_enter Tryd.func14, Tryd.ntmps14
    go_wp2_with (first | (go_at_call 18; (try (rename_i hK_; simp only [List.append] at hK_)); (with_reducible refine (big_Norm.calls k true (⟨#[48, 48, 55]⟩ : ByteArray) t139 _ A1.out).mono ?_); rintro e w81 ⟨rfl, hb⟩; have n0_ := Aside0.mk (below_step (by repeat (first | (with_reducible first | exact HB.out | apply below_alloc | apply pw_below_drewN | apply below_drew1) | exact HB.out)) hb); clear HB; have HB := n0_; clear n0_; (try clear hb); (try clear hb2); (try clear hk); (try clear hi)))
    go_ret
    exact ⟨by first | rfl | (simp [errW_none, errW_some] <;> rfl) | (simp [*, errW_none, errW_some] <;> rfl), by repeat (first | (with_reducible first | exact HB.out | apply below_alloc | apply pw_below_drewN | apply below_drew1) | exact HB.out)⟩

/-! ### targumlaw4_digits: function 27 -/
def targumlaw4_digits.l0 : Nat → ByteArray → List Int → Int → Option (ByteArray)
  | 0, _, _, _ => none
  | k + 1, x0, x3, x4 => if x4 < (x0.size : Int) then (if 0 ≤ x4 then (if x4 < (x3.length : Int) then (targumlaw4_digits.l0 k x0 (x3.set (x4 : Int).toNat ((48 + (Int.tmod (bt x0 x4) 10)) % 256)) (wrap64 (x4 + 1))) else (none)) else (none)) else (some (strOfNums x3))
def targumlaw4_digits.f (k : Nat) (a0 : ByteArray) : Option (ByteArray) := if 0 ≤ (a0.size : Int) then (if ((a0.size : Int) : Int).toNat ≤ 281474976710656 then (targumlaw4_digits.l0 k a0 (List.replicate ((a0.size : Int) : Int).toNat 0) 0) else (none)) else (none)
theorem targumlaw4_digits.mono_l : ∀ k, (∀ y0 y1 y2, LeO (targumlaw4_digits.l0 k y0 y1 y2) (targumlaw4_digits.l0 (k + 1) y0 y1 y2))
  | 0 => fun _ _ _ r h => by simp [targumlaw4_digits.l0] at h
  | k + 1 => by
    have ih0 := targumlaw4_digits.mono_l k
    · intro y0 y1 y2
      unfold targumlaw4_digits.l0
      repeat' first
      | (with_reducible exact ih0 _ _ _)
      | (with_reducible exact LeO.refl _)
      | (with_reducible exact LeO.none _)
      | (with_reducible refine LeO.ite ?_ ?_)
      | (with_reducible refine LeO.bind ?_ (fun _ => ?_))
      | exact ih0 _ _ _
      | exact LeO.none _
      | refine LeO.ite ?_ ?_
      | refine LeO.bind ?_ (fun _ => ?_)
theorem targumlaw4_digits.mono : ∀ a0 k, LeO (targumlaw4_digits.f k a0) (targumlaw4_digits.f (k + 1) a0) := by
  intro a0 k
  have ih0 := targumlaw4_digits.mono_l k
  unfold targumlaw4_digits.f
  repeat' first
      | (with_reducible exact ih0 _ _ _)
      | (with_reducible exact LeO.refl _)
      | (with_reducible exact LeO.none _)
      | (with_reducible refine LeO.ite ?_ ?_)
      | (with_reducible refine LeO.bind ?_ (fun _ => ?_))
      | exact ih0 _ _ _
      | exact LeO.none _
      | refine LeO.ite ?_ ?_
      | refine LeO.bind ?_ (fun _ => ?_)
set_option maxHeartbeats 8000000 in
set_option maxRecDepth 100000 in
theorem targumlaw4_digits.calls (k : Nat) (a0 : ByteArray) (r : ByteArray) (w : World) (h : targumlaw4_digits.f k a0 = some r) :
    Calls Tryd.prog 27 #[.string a0] w fun e w' => e = .returned (.string r) ∧ Below w.heap.size w w' := by
  have HB := Aside0.mk (Below.refl w.heap.size w)
  have H : (if 0 ≤ (a0.size : Int) then (if ((a0.size : Int) : Int).toNat ≤ 281474976710656 then (targumlaw4_digits.l0 k a0 (List.replicate ((a0.size : Int) : Int).toNat 0) 0) else (none)) else (none)) = some r := h
  clear h
  by_cases c2 : 0 ≤ (a0.size : Int)
  · rw [if_pos c2] at H
    have c2b0 := eq_true c2
    have c2b1 : decide (0 ≤ (a0.size : Int)) = true := decide_eq_true c2
    clear c2
    by_cases c3 : ((a0.size : Int) : Int).toNat ≤ 281474976710656
    · rw [if_pos c3] at H
      have c3b0 := eq_true c3
      have c3b1 : decide (((a0.size : Int) : Int).toNat ≤ 281474976710656) = true := decide_eq_true c3
      clear c3
      obtain ⟨y150, hy150⟩ : ∃ y_ : List Int, y_ = (List.replicate ((a0.size : Int) : Int).toNat 0) := ⟨_, rfl⟩
      replace H : (targumlaw4_digits.l0 k a0 y150 0) = some r := by first | (rw [hy150]; with_reducible exact H) | (have H2_ := (Option.bind_some _ _).symm.trans H; rw [hy150]; with_reducible exact H2_) | (have H2_ := (Option.bind_some _ _).symm.trans H; with_reducible exact H2_) | with_reducible exact H | (rw [hy150]; exact H) | exact H
      have Ny150 := Aside0.mk hy150
      clear hy150
      have H' := Aside0.mk H
      clear H
      go_enter Tryd.func27, Tryd.ntmps27
      go_wp2_with (first | ((with_reducible refine gate_dst (N := 7) rfl ?_); refine Kd.R_make (Kd.int .u8) _ 5 rfl (N := 7) rfl 31 _ _ rfl (a0.size : Int) rfl rfl Tryd.underlying31 (.int .u8 0) 1 info5 rfl (by decide) (by omega) 0 (ok := fun _ => True) (okp := fun _ => True) rfl (fun _ hk => hk) trivial (of_decide_eq_true (by first | (with_reducible assumption) | assumption)) (Nat.le_trans (Nat.mul_le_mul_right _ (of_decide_eq_true (by first | (with_reducible assumption) | assumption) : (a0.size : Int).toNat ≤ 281474976710656)) (by omega)) (Below.refl _ _) (Nat.le_refl _) ?_; intro v151 w4 ho5 hb hg_ hnew_; clear hg_ hnew_; (first | rw [← Ny150.out] at ho5 | (simp only [Int.reduceToNat] at ho5; rw [← Ny150.out] at ho5)); have n0_ := Aside0.mk (Kd.R_lower ho5 (below_size (by repeat (first | (with_reducible first | exact HB.out | apply below_alloc | apply pw_below_drewN | apply below_drew1) | exact HB.out)))); have n1_ := Aside0.mk (below_step (by repeat (first | (with_reducible first | exact HB.out | apply below_alloc | apply pw_below_drewN | apply below_drew1) | exact HB.out)) hb); clear HB; have HO152 := n0_; have HB := n1_; clear n0_ n1_; clear hb ho5))
      go_loopg [4] k (fun kq v4 w' => ∃ (x3_1 : List Int) (x4_1 : Int), v4 = .int .i64 x4_1 ∧ Aside0 (targumlaw4_digits.l0 kq a0 x3_1 x4_1 = some r) ∧ Aside0 (kq ≤ k) ∧ Aside0 (Kd.R (Kd.int .u8) 5 w' w.heap.size (fun _ => True) v151 x3_1) ∧ Aside0 (Below w.heap.size w w'))
      case atStart => exact ⟨(y150), (0), (by first | rfl | (simp; done) | (simp [*]; done) | (simp [wrap64]; done)), H', ⟨Nat.le_refl _⟩, ⟨by (with_reducible repeat (first | apply Kd.R_alloc | apply Kd.R_drewN | apply Kd.R_drew)); exact HO152.out⟩, ⟨by repeat (first | (with_reducible first | exact HB.out | apply below_alloc | apply pw_below_drewN | apply below_drew1) | exact HB.out)⟩⟩
      case round =>
        clear H'
        try clear c2
        try clear c2b0
        try clear c2b1
        try clear p2
        try clear c3
        try clear c3b0
        try clear c3b1
        obtain ⟨x3_1, x4_1, rfl, HA, HK1, HO_3, HB⟩ := hrel
        cases gk with
        | zero => exact absurd HA.out (by simp [targumlaw4_digits.l0])
        | succ k1 =>
          have H := HA.out
          clear HA
          simp only [targumlaw4_digits.l0] at H
          by_cases c6 : x4_1 < (a0.size : Int)
          · rw [if_pos c6] at H
            have c6b0 : decide (x4_1 < (a0.size : Int)) = true := decide_eq_true c6
            clear c6
            by_cases c7 : 0 ≤ x4_1
            · rw [if_pos c7] at H
              have c7b0 : decide (0 ≤ x4_1) = true := decide_eq_true c7
              clear c7
              by_cases c9 : x4_1 < (x3_1.length : Int)
              · rw [if_pos c9] at H
                have c9b0 : decide (x4_1 < (x3_1.length : Int)) = true := decide_eq_true c9
                clear c9
                obtain ⟨y153, hy153⟩ : ∃ y_ : List Int, y_ = (x3_1.set (x4_1 : Int).toNat ((48 + (Int.tmod (bt a0 x4_1) 10)) % 256)) := ⟨_, rfl⟩
                replace H : (targumlaw4_digits.l0 k1 a0 y153 (wrap64 (x4_1 + 1))) = some r := by first | (rw [hy153]; with_reducible exact H) | (have H2_ := (Option.bind_some _ _).symm.trans H; rw [hy153]; with_reducible exact H2_) | (have H2_ := (Option.bind_some _ _).symm.trans H; with_reducible exact H2_) | with_reducible exact H | (rw [hy153]; exact H) | exact H
                have Ny153 := Aside0.mk hy153
                clear hy153
                have H' := Aside0.mk H
                clear H
                have p8 : 0 ≤ (x4_1 : Int) := of_decide_eq_true (by first | (with_reducible assumption) | assumption)
                have q8 : x4_1 < (a0.size : Int) := of_decide_eq_true (by first | (with_reducible assumption) | assumption)
                have hx8 := bt_at a0 x4_1
                replace p8 := eq_true p8
                replace q8 := eq_true q8
                have p10 : 0 ≤ (x4_1 : Int) := of_decide_eq_true (by first | (with_reducible assumption) | assumption)
                have q10 : (x4_1 : Int) < ((x3_1.length : Int) : Int) := of_decide_eq_true (by first | (with_reducible assumption) | assumption)
                obtain ⟨go10, co10, eo10, gb10, gl10, cl10, HG10⟩ := Kd.R_form HO_3.out (by omega)
                (first | cases eo10 | (injection eo10 with ea_ en_ ec_; (first | subst ea_ | (injection ea_ with ea_; subst ea_)); subst ec_; clear en_))
                have GB10 := Aside0.mk gb10
                have GG10 := Aside0.mk HG10
                clear gb10 gl10 HG10
                obtain ⟨hx10_0, hf10_0⟩ := Kd.R_celln 0 HO_3.out (x4_1 : Int) p10 q10
                replace p10 := eq_true p10
                replace q10 := eq_true q10
                have HP11 := Kd.R_putg HO_3.out (x4_1 : Int) ((48 + (Int.tmod (bt a0 x4_1) 10)) % 256)
                go_wp2_with (first | ((with_reducible refine gate_store (t := 5) (p := 21) rfl ?_); refine store_event (t := 5) (p := 21) (v := ?vo_w12) (w1 := (wr.setCell ⟨go10, (x4_1 : Int).toNat, none⟩ (.int .u8 ((48 + (Int.tmod (bt a0 x4_1) 10)) % 256)))) ?hg ?ho ?hn ?hr ?_; (case ho => rfl); (case hg => rfl); (case hn => rfl); (case hr => first | (go_simp; done) | (go_simp; rfl)); intro w12 hw; have hg : wr.grownBy w12 (some go10) := (by rw [hw]; exact HP11.2); have hp_ : Kd.R (Kd.int .u8) 5 w12 w.heap.size (fun _ => True) (.slice (some ⟨go10, 0, none⟩) x3_1.length co10) y153 := (by rw [hw, Ny153.out]; exact HP11.1); clear HP11; have n0_ := Aside0.mk (hp_); have n1_ := Aside0.mk ((by rw [hw]; exact below_set (HB.out) GB10.out : Below w.heap.size w w12)); clear HO_3; clear HB; have HO_3 := n0_; have HB := n1_; clear n0_ n1_; clear hg hw hp_))
                go_roundg k1
                case measure => have := HK1.out; omega
                case rel => exact ⟨(y153), (wrap64 (x4_1 + 1)), (by first | rfl | (simp; done) | (simp [*]; done) | (simp [wrap64]; done)), H', ⟨by have := HK1.out; omega⟩, ⟨by (with_reducible repeat (first | apply Kd.R_alloc | apply Kd.R_drewN | apply Kd.R_drew)); exact HO_3.out⟩, ⟨by repeat (first | (with_reducible first | exact HB.out | apply below_alloc | apply pw_below_drewN | apply below_drew1) | exact HB.out)⟩⟩
              · rw [if_neg c9] at H
                exact absurd H (by simp)
            · rw [if_neg c7] at H
              exact absurd H (by simp)
          · rw [if_neg c6] at H
            have c6b0 : decide (x4_1 < (a0.size : Int)) = false := decide_eq_false c6
            clear c6
            obtain rfl := Option.some.inj H
            have hcv13 := own_string (P := Tryd.prog) Tryd.underlying31 Tryd.underlying5 Tryd.underlying9 (Kd.own_of_R HO_3.out)
            go_wp2
            go_ret
            exact ⟨by first | rfl | (simp [errW_none, errW_some] <;> rfl) | (simp [*, errW_none, errW_some] <;> rfl), by repeat (first | (with_reducible first | exact HB.out | apply below_alloc | apply pw_below_drewN | apply below_drew1) | exact HB.out)⟩
    · rw [if_neg c3] at H
      exact absurd H (by simp)
  · rw [if_neg c2] at H
    exact absurd H (by simp)

end Go.Proofs.YtddaggnomcoejaaDoor.PQ
