/- Written by this session's own program (xprint, made over the kit's print): Lean functions with the same answers as the Go functions, and the proofs of that. Not trusted: Lean checks it. -/
import Derived.Test.YtddaggnomcoejaaDoorPRx0
import Derived.Test.YtddaggnomcoejaaDoorPRx2
import Derived.Test.YtddaggnomcoejaaDoorPRx3
namespace Go.Proofs.YtddaggnomcoejaaDoor.PR
open Go.RowKit Go.Proofs.YtddaggnomcoejaaDoorW.PrintWords Go.Proofs.YtddaggnomcoejaaDoorW.PrintLast Go.Proofs.YtddaggnomcoejaaDoorW.PrintMore
attribute [local go_sem] max2_int min2_int max_two min_two max_three min_three max_four min_four   -- for this text's walks alone
set_option linter.unusedVariables false
set_option linter.unusedSimpArgs false

/-! ### big_Compare: function 25 -/
mutual
def big_Compare.j0 : Nat → ByteArray → ByteArray → Bool → Option (Int)
  | 0, _, _, _ => none
  | k + 1, x0, x1, x16 => if x16 = true then (some 0) else ((big_parts.f x0).bind fun bt133 => ((big_parts.f x1).bind fun bt135 => (if bt133.1 = true then (big_Compare.j1 k bt133.1 bt133.2 bt135.1 bt135.2 bt135.1) else (big_Compare.j1 k bt133.1 bt133.2 bt135.1 bt135.2 false))))
def big_Compare.j1 : Nat → Bool → ByteArray → Bool → ByteArray → Bool → Option (Int)
  | 0, _, _, _, _, _ => none
  | k + 1, x5, x6, x7, x8, x27 => if x27 = true then ((big_above.f x8 x6).bind fun t137 => (some t137)) else (if x5 = true then (some (-1)) else (if x7 = true then (some 1) else ((big_above.f x6 x8).bind fun t138 => (some t138))))
end
def big_Compare.f (k : Nat) (a0 : ByteArray) (a1 : ByteArray) : Option (Int) := (big_Good.f k a0).bind fun t131 => (if t131 = true then ((big_Good.f k a1).bind fun t132 => (big_Compare.j0 k a0 a1 (!t132))) else (big_Compare.j0 k a0 a1 true))
theorem big_Compare.mono_l : ∀ k, (∀ y0 y1 y2, LeO (big_Compare.j0 k y0 y1 y2) (big_Compare.j0 (k + 1) y0 y1 y2)) ∧ (∀ y0 y1 y2 y3 y4, LeO (big_Compare.j1 k y0 y1 y2 y3 y4) (big_Compare.j1 (k + 1) y0 y1 y2 y3 y4))
  | 0 => ⟨fun _ _ _ r h => by simp [big_Compare.j0] at h, fun _ _ _ _ _ r h => by simp [big_Compare.j1] at h⟩
  | k + 1 => by
    obtain ⟨ih0, ih1⟩ := big_Compare.mono_l k
    refine ⟨?_, ?_⟩
    · intro y0 y1 y2
      unfold big_Compare.j0
      repeat' first
      | (with_reducible exact ih0 _ _ _)
      | (with_reducible exact ih1 _ _ _ _ _)
      | (with_reducible exact big_Good.mono _ _)
      | (with_reducible exact LeO.refl _)
      | (with_reducible exact LeO.none _)
      | (with_reducible refine LeO.ite ?_ ?_)
      | (with_reducible refine LeO.bind ?_ (fun _ => ?_))
      | exact ih0 _ _ _
      | exact ih1 _ _ _ _ _
      | exact big_Good.mono _ _
      | exact LeO.none _
      | refine LeO.ite ?_ ?_
      | refine LeO.bind ?_ (fun _ => ?_)
    · intro y0 y1 y2 y3 y4
      unfold big_Compare.j1
      repeat' first
      | (with_reducible exact ih0 _ _ _)
      | (with_reducible exact ih1 _ _ _ _ _)
      | (with_reducible exact big_Good.mono _ _)
      | (with_reducible exact LeO.refl _)
      | (with_reducible exact LeO.none _)
      | (with_reducible refine LeO.ite ?_ ?_)
      | (with_reducible refine LeO.bind ?_ (fun _ => ?_))
      | exact ih0 _ _ _
      | exact ih1 _ _ _ _ _
      | exact big_Good.mono _ _
      | exact LeO.none _
      | refine LeO.ite ?_ ?_
      | refine LeO.bind ?_ (fun _ => ?_)
theorem big_Compare.mono : ∀ a0 a1 k, LeO (big_Compare.f k a0 a1) (big_Compare.f (k + 1) a0 a1) := by
  intro a0 a1 k
  obtain ⟨ih0, ih1⟩ := big_Compare.mono_l k
  unfold big_Compare.f
  repeat' first
      | (with_reducible exact ih0 _ _ _)
      | (with_reducible exact ih1 _ _ _ _ _)
      | (with_reducible exact big_Good.mono _ _)
      | (with_reducible exact LeO.refl _)
      | (with_reducible exact LeO.none _)
      | (with_reducible refine LeO.ite ?_ ?_)
      | (with_reducible refine LeO.bind ?_ (fun _ => ?_))
      | exact ih0 _ _ _
      | exact ih1 _ _ _ _ _
      | exact big_Good.mono _ _
      | exact LeO.none _
      | refine LeO.ite ?_ ?_
      | refine LeO.bind ?_ (fun _ => ?_)
set_option maxHeartbeats 40000000 in
set_option maxRecDepth 100000 in
theorem big_Compare.calls (k : Nat) (a0 : ByteArray) (a1 : ByteArray) (r : Int) (w : World) (h : big_Compare.f k a0 a1 = some r) :
    Calls Tryd.prog 25 #[.string a0, .string a1] w fun e w' => e = .returned (.int .i64 r) ∧ Below w.heap.size w w' := by
  have HB := Aside0.mk (Below.refl w.heap.size w)
  have H : ((big_Good.f k a0).bind fun t131 => (if t131 = true then ((big_Good.f k a1).bind fun t132 => (big_Compare.j0 k a0 a1 (!t132))) else (big_Compare.j0 k a0 a1 true))) = some r := h
  clear h
  have HC3 := Aside0.mk H
  clear H
  go_enter Tryd.func25, Tryd.ntmps25
  go_upto_region 1 with (fail)
  go_cut [16] (fun v16 wc => ∃ (kq : Nat) (x16_2 : Bool), v16 = .bool x16_2 ∧ Aside0 (big_Compare.j0 kq a0 a1 x16_2 = some r) ∧ Aside0 (kq ≤ k) ∧ Aside0 (Below w.heap.size w wc))
  case first =>
    have H := HC3.out
    clear HC3
    replace H := Option.bind_eq_some_iff.mp H
    obtain ⟨t131, A40, H⟩ := H
    replace H : (if t131 = true then ((big_Good.f k a1).bind fun t132 => (big_Compare.j0 k a0 a1 (!t132))) else (big_Compare.j0 k a0 a1 true)) = some r := H
    have A4 := Aside0.mk A40
    clear A40
    by_cases c5 : t131 = true
    · subst c5
      have H1 : ((big_Good.f k a1).bind fun t132 => (big_Compare.j0 k a0 a1 (!t132))) = some r := by rw [if_pos rfl] at H; exact H
      clear H
      have H := H1
      clear H1
      replace H := Option.bind_eq_some_iff.mp H
      obtain ⟨t132, A60, H⟩ := H
      replace H : (big_Compare.j0 k a0 a1 (!t132)) = some r := H
      have A6 := Aside0.mk A60
      clear A60
      have H' := Aside0.mk H
      clear H
      go_wp2_with (first | ((with_reducible refine gate_callee (f := 16) rfl ?_); refine goesL_ (some 10) rfl rfl Tryd.func16 (by kernel_rfl) rfl #[.string a0] rfl (by (try simp only [List.map_toArray, List.map_cons, List.map_nil]); first | done | rfl | (simp only [List.length_drop, List.length_take]; rfl)) ?_; (with_reducible refine (big_Good.calls k a0 true _ A4.out).mono ?_); rintro e w' ⟨rfl, ⟨nd, rfl⟩⟩; refine ⟨_, rfl, ?_⟩) | (go_at_call 16; (try (rename_i hK_; simp only [List.append] at hK_)); (with_reducible refine (big_Good.calls k a1 t132 _ A6.out).mono ?_); rintro e w' ⟨rfl, ⟨nd, rfl⟩⟩))
      go_meet
      case rel => exact ⟨_, (!t132), (by first | rfl | (simp; done) | (simp [*]; done) | (simp [wrap64]; done)), H', ⟨by first | omega | exact Nat.le_refl _⟩, ⟨by repeat (first | (with_reducible first | exact HB.out | apply below_alloc | apply pw_below_drewN | apply below_drew1) | exact HB.out)⟩⟩
    · replace c5 := Bool.eq_false_iff.mpr c5
      subst c5
      have H1 : (big_Compare.j0 k a0 a1 true) = some r := by rw [if_neg (show ¬ (false = true) by decide)] at H; exact H
      clear H
      have H := H1
      clear H1
      have H' := Aside0.mk H
      clear H
      go_wp2_with (first | ((with_reducible refine gate_callee (f := 16) rfl ?_); refine goesL_ (some 10) rfl rfl Tryd.func16 (by kernel_rfl) rfl #[.string a0] rfl (by (try simp only [List.map_toArray, List.map_cons, List.map_nil]); first | done | rfl | (simp only [List.length_drop, List.length_take]; rfl)) ?_; (with_reducible refine (big_Good.calls k a0 false _ A4.out).mono ?_); rintro e w' ⟨rfl, ⟨nd, rfl⟩⟩; refine ⟨_, rfl, ?_⟩))
      go_meet
      case rel => exact ⟨_, (true), (by first | rfl | (simp; done) | (simp [*]; done) | (simp [wrap64]; done)), H', ⟨by first | omega | exact Nat.le_refl _⟩, ⟨by repeat (first | (with_reducible first | exact HB.out | apply below_alloc | apply pw_below_drewN | apply below_drew1) | exact HB.out)⟩⟩
  case rest =>
    clear HC3
    try clear c1
    try clear c2
    try clear p2
    try clear c5
    obtain ⟨kq, x16_2, rfl, HA, HJ2, HB⟩ := hcut
    cases kq with
    | zero => exact absurd HA.out (by simp [big_Compare.j0])
    | succ kj2 =>
      have H := HA.out
      clear HA
      simp only [big_Compare.j0] at H
      by_cases c7 : x16_2 = true
      · subst c7
        have H1 : (some 0) = some r := by rw [if_pos rfl] at H; exact H
        clear H
        have H := H1
        clear H1
        obtain rfl := Option.some.inj H
        go_wp2
        go_ret
        exact ⟨by first | rfl | (simp [errW_none, errW_some] <;> rfl) | (simp [*, errW_none, errW_some] <;> rfl) | ((generalize ByteArray.toList _ = z_); cases z_ <;> first | rfl | (simp; done)), by repeat (first | (with_reducible first | exact HB.out | apply below_alloc | apply pw_below_drewN | apply below_drew1) | exact HB.out)⟩
      · replace c7 := Bool.eq_false_iff.mpr c7
        subst c7
        have H1 : ((big_parts.f a0).bind fun bt133 => ((big_parts.f a1).bind fun bt135 => (if bt133.1 = true then (big_Compare.j1 kj2 bt133.1 bt133.2 bt135.1 bt135.2 bt135.1) else (big_Compare.j1 kj2 bt133.1 bt133.2 bt135.1 bt135.2 false)))) = some r := by rw [if_neg (show ¬ (false = true) by decide)] at H; exact H
        clear H
        have H := H1
        clear H1
        replace H := Option.bind_eq_some_iff.mp H
        obtain ⟨⟨t133, t134⟩, A80, H⟩ := H
        replace H : ((big_parts.f a1).bind fun bt135 => (if t133 = true then (big_Compare.j1 kj2 t133 t134 bt135.1 bt135.2 bt135.1) else (big_Compare.j1 kj2 t133 t134 bt135.1 bt135.2 false))) = some r := H
        have A8 := Aside0.mk A80
        clear A80
        replace H := Option.bind_eq_some_iff.mp H
        obtain ⟨⟨t135, t136⟩, A90, H⟩ := H
        replace H : (if t133 = true then (big_Compare.j1 kj2 t133 t134 t135 t136 t135) else (big_Compare.j1 kj2 t133 t134 t135 t136 false)) = some r := H
        have A9 := Aside0.mk A90
        clear A90
        have HC10 := Aside0.mk H
        clear H
        go_upto_region 5 with (first | ((with_reducible refine gate_callee (f := 39) rfl ?_); refine goesL_ (some 19) rfl rfl Tryd.func39 (by kernel_rfl) rfl #[.string a0] rfl (by (try simp only [List.map_toArray, List.map_cons, List.map_nil]); first | done | rfl | (simp only [List.length_drop, List.length_take]; rfl)) ?_; (with_reducible refine (big_parts.calls a0 t133 t134 _ A8.out).mono ?_); rintro e w' ⟨rfl, ⟨nd, rfl⟩⟩; refine ⟨_, rfl, ?_⟩) | ((with_reducible refine gate_callee (f := 39) rfl ?_); refine goesL_ (some 24) rfl rfl Tryd.func39 (by kernel_rfl) rfl #[.string a1] rfl (by (try simp only [List.map_toArray, List.map_cons, List.map_nil]); first | done | rfl | (simp only [List.length_drop, List.length_take]; rfl)) ?_; (with_reducible refine (big_parts.calls a1 t135 t136 _ A9.out).mono ?_); rintro e w' ⟨rfl, ⟨nd, rfl⟩⟩; refine ⟨_, rfl, ?_⟩))
        (try simp only [Act.put, List.setIfInBounds_toArray, List.set_cons_zero, List.set_cons_succ])
        go_cut [27] (fun v27 wc => ∃ (kq : Nat) (x27_9 : Bool), v27 = .bool x27_9 ∧ Aside0 (big_Compare.j1 kq t133 t134 t135 t136 x27_9 = some r) ∧ Aside0 (kq ≤ kj2) ∧ Aside0 (Below w.heap.size w wc))
        case first =>
          have H := HC10.out
          clear HC10
          by_cases c11 : t133 = true
          · subst c11
            have H1 : (big_Compare.j1 kj2 true t134 t135 t136 t135) = some r := by rw [if_pos rfl] at H; exact H
            clear H
            have H := H1
            clear H1
            have H' := Aside0.mk H
            clear H
            go_wp2
            go_meet
            case rel => exact ⟨_, (t135), (by first | rfl | (simp; done) | (simp [*]; done) | (simp [wrap64]; done)), H', ⟨by have := HJ2.out; first | omega | exact Nat.le_refl _⟩, ⟨by repeat (first | (with_reducible first | exact HB.out | apply below_alloc | apply pw_below_drewN | apply below_drew1) | exact HB.out)⟩⟩
          · replace c11 := Bool.eq_false_iff.mpr c11
            subst c11
            have H1 : (big_Compare.j1 kj2 false t134 t135 t136 false) = some r := by rw [if_neg (show ¬ (false = true) by decide)] at H; exact H
            clear H
            have H := H1
            clear H1
            have H' := Aside0.mk H
            clear H
            go_wp2
            go_meet
            case rel => exact ⟨_, (false), (by first | rfl | (simp; done) | (simp [*]; done) | (simp [wrap64]; done)), H', ⟨by have := HJ2.out; first | omega | exact Nat.le_refl _⟩, ⟨by repeat (first | (with_reducible first | exact HB.out | apply below_alloc | apply pw_below_drewN | apply below_drew1) | exact HB.out)⟩⟩
        case rest =>
          clear HC10
          try clear c1
          try clear c2
          try clear p2
          try clear c3
          try clear c5
          try clear c7
          try clear c11
          try clear p2
          obtain ⟨kq, x27_9, rfl, HA, HJ9, HB⟩ := hcut
          cases kq with
          | zero => exact absurd HA.out (by simp [big_Compare.j1])
          | succ kj9 =>
            have H := HA.out
            clear HA
            simp only [big_Compare.j1] at H
            by_cases c12 : x27_9 = true
            · subst c12
              have H1 : ((big_above.f t136 t134).bind fun t137 => (some t137)) = some r := by rw [if_pos rfl] at H; exact H
              clear H
              have H := H1
              clear H1
              replace H := Option.bind_eq_some_iff.mp H
              obtain ⟨t137, A130, H⟩ := H
              replace H : (some t137) = some r := H
              have A13 := Aside0.mk A130
              clear A130
              obtain rfl := Option.some.inj H
              go_wp2_with (first | ((with_reducible refine gate_callee (f := 49) rfl ?_); refine goesL_ (some 34) rfl rfl Tryd.func49 (by kernel_rfl) rfl #[.string t136, .string t134] rfl (by (try simp only [List.map_toArray, List.map_cons, List.map_nil]); first | done | rfl | (simp only [List.length_drop, List.length_take]; rfl)) ?_; (with_reducible refine (big_above.calls t136 t134 t137 _ A13.out).mono ?_); rintro e w14 ⟨rfl, hb⟩; refine ⟨_, rfl, ?_⟩; have n0_ := Aside0.mk (below_step (by repeat (first | (with_reducible first | exact HB.out | apply below_alloc | apply pw_below_drewN | apply below_drew1) | exact HB.out)) hb); clear HB; have HB := n0_; clear n0_; (try clear hb); (try clear hb2); (try clear hk); (try clear hi)))
              go_ret
              exact ⟨by first | rfl | (simp [errW_none, errW_some] <;> rfl) | (simp [*, errW_none, errW_some] <;> rfl) | ((generalize ByteArray.toList _ = z_); cases z_ <;> first | rfl | (simp; done)), by repeat (first | (with_reducible first | exact HB.out | apply below_alloc | apply pw_below_drewN | apply below_drew1) | exact HB.out)⟩
            · replace c12 := Bool.eq_false_iff.mpr c12
              subst c12
              have H1 : (if t133 = true then (some (-1)) else (if t135 = true then (some 1) else ((big_above.f t134 t136).bind fun t138 => (some t138)))) = some r := by rw [if_neg (show ¬ (false = true) by decide)] at H; exact H
              clear H
              have H := H1
              clear H1
              by_cases c15 : t133 = true
              · subst c15
                have H1 : (some (-1)) = some r := by rw [if_pos rfl] at H; exact H
                clear H
                have H := H1
                clear H1
                obtain rfl := Option.some.inj H
                go_wp2
                go_ret
                exact ⟨by first | rfl | (simp [errW_none, errW_some] <;> rfl) | (simp [*, errW_none, errW_some] <;> rfl) | ((generalize ByteArray.toList _ = z_); cases z_ <;> first | rfl | (simp; done)), by repeat (first | (with_reducible first | exact HB.out | apply below_alloc | apply pw_below_drewN | apply below_drew1) | exact HB.out)⟩
              · replace c15 := Bool.eq_false_iff.mpr c15
                subst c15
                have H1 : (if t135 = true then (some 1) else ((big_above.f t134 t136).bind fun t138 => (some t138))) = some r := by rw [if_neg (show ¬ (false = true) by decide)] at H; exact H
                clear H
                have H := H1
                clear H1
                by_cases c16 : t135 = true
                · subst c16
                  have H1 : (some 1) = some r := by rw [if_pos rfl] at H; exact H
                  clear H
                  have H := H1
                  clear H1
                  obtain rfl := Option.some.inj H
                  go_wp2
                  go_ret
                  exact ⟨by first | rfl | (simp [errW_none, errW_some] <;> rfl) | (simp [*, errW_none, errW_some] <;> rfl) | ((generalize ByteArray.toList _ = z_); cases z_ <;> first | rfl | (simp; done)), by repeat (first | (with_reducible first | exact HB.out | apply below_alloc | apply pw_below_drewN | apply below_drew1) | exact HB.out)⟩
                · replace c16 := Bool.eq_false_iff.mpr c16
                  subst c16
                  have H1 : ((big_above.f t134 t136).bind fun t138 => (some t138)) = some r := by rw [if_neg (show ¬ (false = true) by decide)] at H; exact H
                  clear H
                  have H := H1
                  clear H1
                  replace H := Option.bind_eq_some_iff.mp H
                  obtain ⟨t138, A170, H⟩ := H
                  replace H : (some t138) = some r := H
                  have A17 := Aside0.mk A170
                  clear A170
                  obtain rfl := Option.some.inj H
                  go_wp2_with (first | ((with_reducible refine gate_callee (f := 49) rfl ?_); refine goesL_ (some 41) rfl rfl Tryd.func49 (by kernel_rfl) rfl #[.string t134, .string t136] rfl (by (try simp only [List.map_toArray, List.map_cons, List.map_nil]); first | done | rfl | (simp only [List.length_drop, List.length_take]; rfl)) ?_; (with_reducible refine (big_above.calls t134 t136 t138 _ A17.out).mono ?_); rintro e w18 ⟨rfl, hb⟩; refine ⟨_, rfl, ?_⟩; have n0_ := Aside0.mk (below_step (by repeat (first | (with_reducible first | exact HB.out | apply below_alloc | apply pw_below_drewN | apply below_drew1) | exact HB.out)) hb); clear HB; have HB := n0_; clear n0_; (try clear hb); (try clear hb2); (try clear hk); (try clear hi)))
                  go_ret
                  exact ⟨by first | rfl | (simp [errW_none, errW_some] <;> rfl) | (simp [*, errW_none, errW_some] <;> rfl) | ((generalize ByteArray.toList _ = z_); cases z_ <;> first | rfl | (simp; done)), by repeat (first | (with_reducible first | exact HB.out | apply below_alloc | apply pw_below_drewN | apply below_drew1) | exact HB.out)⟩

/-! ### targumlaw4_known: function 14 -/
def targumlaw4_known.f (k : Nat)  : Option (Bool) := (big_Norm.f k true (⟨#[48, 48, 55]⟩ : ByteArray)).bind fun t139 => (if t139.toList = ([45, 55] : List UInt8) then ((big_Norm.f k true (⟨#[48, 48]⟩ : ByteArray)).bind fun t140 => (if t140.toList = ([48] : List UInt8) then ((big_Base.f k (⟨#[102, 70]⟩ : ByteArray) 16).bind fun t141 => (if t141.toList = ([50, 53, 53] : List UInt8) then ((big_Base.f k (⟨#[56]⟩ : ByteArray) 8).bind fun t142 => (if t142.toList = ([] : List UInt8) then ((big_MulAdd.f k (⟨#[49, 50]⟩ : ByteArray) 60 5).bind fun t143 => (if t143.toList = ([55, 50, 53] : List UInt8) then ((big_Add.f k (⟨#[49]⟩ : ByteArray) (-2)).bind fun t144 => (if t144.toList = ([45, 49] : List UInt8) then ((big_Add.f k (⟨#[45, 49, 48]⟩ : ByteArray) 1).bind fun t145 => (if t145.toList = ([45, 57] : List UInt8) then ((big_Compare.f k (⟨#[45, 50]⟩ : ByteArray) (⟨#[49]⟩ : ByteArray)).bind fun t146 => (if t146 = (-1) then ((big_Good.f k (⟨#[48]⟩ : ByteArray)).bind fun t147 => (if t147 = true then ((big_Good.f k (⟨#[45, 48]⟩ : ByteArray)).bind fun t148 => (if t148 = true then (some false) else ((big_Good.f k (⟨#[]⟩ : ByteArray)).bind fun t149 => (some (!t149))))) else (some false))) else (some false))) else (some false))) else (some false))) else (some false))) else (some false))) else (some false))) else (some false))) else (some false))
theorem targumlaw4_known.mono : ∀ k, LeO (targumlaw4_known.f k ) (targumlaw4_known.f (k + 1) ) := by
  intro  k
  unfold targumlaw4_known.f
  repeat' first
      | (with_reducible exact big_Add.mono _ _ _)
      | (with_reducible exact big_Base.mono _ _ _)
      | (with_reducible exact big_Compare.mono _ _ _)
      | (with_reducible exact big_Good.mono _ _)
      | (with_reducible exact big_MulAdd.mono _ _ _ _)
      | (with_reducible exact big_Norm.mono _ _ _)
      | (with_reducible exact LeO.refl _)
      | (with_reducible exact LeO.none _)
      | (with_reducible refine LeO.ite ?_ ?_)
      | (with_reducible refine LeO.bind ?_ (fun _ => ?_))
      | exact big_Add.mono _ _ _
      | exact big_Base.mono _ _ _
      | exact big_Compare.mono _ _ _
      | exact big_Good.mono _ _
      | exact big_MulAdd.mono _ _ _ _
      | exact big_Norm.mono _ _ _
      | exact LeO.none _
      | refine LeO.ite ?_ ?_
      | refine LeO.bind ?_ (fun _ => ?_)
set_option maxHeartbeats 40000000 in
set_option maxRecDepth 100000 in
theorem targumlaw4_known.calls (k : Nat)  (r : Bool) (w : World) (hG : Go.Proofs.YtddaggnomcoejaaDoor.Room.PowTab w) (h : targumlaw4_known.f k  = some r) :
    Calls Tryd.prog 14 #[] w fun e w' => e = .returned (.bool r) ∧ Below w.heap.size w w' := by
  have HG := Aside0.mk hG
  clear hG
  have HB := Aside0.mk (Below.refl w.heap.size w)
  have H : ((big_Norm.f k true (⟨#[48, 48, 55]⟩ : ByteArray)).bind fun t139 => (if t139.toList = ([45, 55] : List UInt8) then ((big_Norm.f k true (⟨#[48, 48]⟩ : ByteArray)).bind fun t140 => (if t140.toList = ([48] : List UInt8) then ((big_Base.f k (⟨#[102, 70]⟩ : ByteArray) 16).bind fun t141 => (if t141.toList = ([50, 53, 53] : List UInt8) then ((big_Base.f k (⟨#[56]⟩ : ByteArray) 8).bind fun t142 => (if t142.toList = ([] : List UInt8) then ((big_MulAdd.f k (⟨#[49, 50]⟩ : ByteArray) 60 5).bind fun t143 => (if t143.toList = ([55, 50, 53] : List UInt8) then ((big_Add.f k (⟨#[49]⟩ : ByteArray) (-2)).bind fun t144 => (if t144.toList = ([45, 49] : List UInt8) then ((big_Add.f k (⟨#[45, 49, 48]⟩ : ByteArray) 1).bind fun t145 => (if t145.toList = ([45, 57] : List UInt8) then ((big_Compare.f k (⟨#[45, 50]⟩ : ByteArray) (⟨#[49]⟩ : ByteArray)).bind fun t146 => (if t146 = (-1) then ((big_Good.f k (⟨#[48]⟩ : ByteArray)).bind fun t147 => (if t147 = true then ((big_Good.f k (⟨#[45, 48]⟩ : ByteArray)).bind fun t148 => (if t148 = true then (some false) else ((big_Good.f k (⟨#[]⟩ : ByteArray)).bind fun t149 => (some (!t149))))) else (some false))) else (some false))) else (some false))) else (some false))) else (some false))) else (some false))) else (some false))) else (some false))) else (some false))) = some r := h
  clear h
  replace H := Option.bind_eq_some_iff.mp H
  obtain ⟨t139, A10, H⟩ := H
  replace H : (if t139.toList = ([45, 55] : List UInt8) then ((big_Norm.f k true (⟨#[48, 48]⟩ : ByteArray)).bind fun t140 => (if t140.toList = ([48] : List UInt8) then ((big_Base.f k (⟨#[102, 70]⟩ : ByteArray) 16).bind fun t141 => (if t141.toList = ([50, 53, 53] : List UInt8) then ((big_Base.f k (⟨#[56]⟩ : ByteArray) 8).bind fun t142 => (if t142.toList = ([] : List UInt8) then ((big_MulAdd.f k (⟨#[49, 50]⟩ : ByteArray) 60 5).bind fun t143 => (if t143.toList = ([55, 50, 53] : List UInt8) then ((big_Add.f k (⟨#[49]⟩ : ByteArray) (-2)).bind fun t144 => (if t144.toList = ([45, 49] : List UInt8) then ((big_Add.f k (⟨#[45, 49, 48]⟩ : ByteArray) 1).bind fun t145 => (if t145.toList = ([45, 57] : List UInt8) then ((big_Compare.f k (⟨#[45, 50]⟩ : ByteArray) (⟨#[49]⟩ : ByteArray)).bind fun t146 => (if t146 = (-1) then ((big_Good.f k (⟨#[48]⟩ : ByteArray)).bind fun t147 => (if t147 = true then ((big_Good.f k (⟨#[45, 48]⟩ : ByteArray)).bind fun t148 => (if t148 = true then (some false) else ((big_Good.f k (⟨#[]⟩ : ByteArray)).bind fun t149 => (some (!t149))))) else (some false))) else (some false))) else (some false))) else (some false))) else (some false))) else (some false))) else (some false))) else (some false))) else (some false)) = some r := H
  have A1 := Aside0.mk A10
  clear A10
  by_cases c2 : t139.toList = ([45, 55] : List UInt8)
  · rw [if_pos c2] at H
    have c2b0 : (t139.toList == ([45, 55] : List UInt8)) = true := beq_iff_eq.mpr c2
    have c2b1 : (t139.toList != ([45, 55] : List UInt8)) = false := bne_eq_false_iff_eq.mpr c2
    clear c2
    replace H := Option.bind_eq_some_iff.mp H
    obtain ⟨t140, A30, H⟩ := H
    replace H : (if t140.toList = ([48] : List UInt8) then ((big_Base.f k (⟨#[102, 70]⟩ : ByteArray) 16).bind fun t141 => (if t141.toList = ([50, 53, 53] : List UInt8) then ((big_Base.f k (⟨#[56]⟩ : ByteArray) 8).bind fun t142 => (if t142.toList = ([] : List UInt8) then ((big_MulAdd.f k (⟨#[49, 50]⟩ : ByteArray) 60 5).bind fun t143 => (if t143.toList = ([55, 50, 53] : List UInt8) then ((big_Add.f k (⟨#[49]⟩ : ByteArray) (-2)).bind fun t144 => (if t144.toList = ([45, 49] : List UInt8) then ((big_Add.f k (⟨#[45, 49, 48]⟩ : ByteArray) 1).bind fun t145 => (if t145.toList = ([45, 57] : List UInt8) then ((big_Compare.f k (⟨#[45, 50]⟩ : ByteArray) (⟨#[49]⟩ : ByteArray)).bind fun t146 => (if t146 = (-1) then ((big_Good.f k (⟨#[48]⟩ : ByteArray)).bind fun t147 => (if t147 = true then ((big_Good.f k (⟨#[45, 48]⟩ : ByteArray)).bind fun t148 => (if t148 = true then (some false) else ((big_Good.f k (⟨#[]⟩ : ByteArray)).bind fun t149 => (some (!t149))))) else (some false))) else (some false))) else (some false))) else (some false))) else (some false))) else (some false))) else (some false))) else (some false)) = some r := H
    have A3 := Aside0.mk A30
    clear A30
    by_cases c4 : t140.toList = ([48] : List UInt8)
    · rw [if_pos c4] at H
      have c4b0 : (t140.toList == ([48] : List UInt8)) = true := beq_iff_eq.mpr c4
      have c4b1 : (t140.toList != ([48] : List UInt8)) = false := bne_eq_false_iff_eq.mpr c4
      clear c4
      replace H := Option.bind_eq_some_iff.mp H
      obtain ⟨t141, A50, H⟩ := H
      replace H : (if t141.toList = ([50, 53, 53] : List UInt8) then ((big_Base.f k (⟨#[56]⟩ : ByteArray) 8).bind fun t142 => (if t142.toList = ([] : List UInt8) then ((big_MulAdd.f k (⟨#[49, 50]⟩ : ByteArray) 60 5).bind fun t143 => (if t143.toList = ([55, 50, 53] : List UInt8) then ((big_Add.f k (⟨#[49]⟩ : ByteArray) (-2)).bind fun t144 => (if t144.toList = ([45, 49] : List UInt8) then ((big_Add.f k (⟨#[45, 49, 48]⟩ : ByteArray) 1).bind fun t145 => (if t145.toList = ([45, 57] : List UInt8) then ((big_Compare.f k (⟨#[45, 50]⟩ : ByteArray) (⟨#[49]⟩ : ByteArray)).bind fun t146 => (if t146 = (-1) then ((big_Good.f k (⟨#[48]⟩ : ByteArray)).bind fun t147 => (if t147 = true then ((big_Good.f k (⟨#[45, 48]⟩ : ByteArray)).bind fun t148 => (if t148 = true then (some false) else ((big_Good.f k (⟨#[]⟩ : ByteArray)).bind fun t149 => (some (!t149))))) else (some false))) else (some false))) else (some false))) else (some false))) else (some false))) else (some false))) else (some false)) = some r := H
      have A5 := Aside0.mk A50
      clear A50
      by_cases c6 : t141.toList = ([50, 53, 53] : List UInt8)
      · rw [if_pos c6] at H
        have c6b0 : (t141.toList == ([50, 53, 53] : List UInt8)) = true := beq_iff_eq.mpr c6
        have c6b1 : (t141.toList != ([50, 53, 53] : List UInt8)) = false := bne_eq_false_iff_eq.mpr c6
        clear c6
        replace H := Option.bind_eq_some_iff.mp H
        obtain ⟨t142, A70, H⟩ := H
        replace H : (if t142.toList = ([] : List UInt8) then ((big_MulAdd.f k (⟨#[49, 50]⟩ : ByteArray) 60 5).bind fun t143 => (if t143.toList = ([55, 50, 53] : List UInt8) then ((big_Add.f k (⟨#[49]⟩ : ByteArray) (-2)).bind fun t144 => (if t144.toList = ([45, 49] : List UInt8) then ((big_Add.f k (⟨#[45, 49, 48]⟩ : ByteArray) 1).bind fun t145 => (if t145.toList = ([45, 57] : List UInt8) then ((big_Compare.f k (⟨#[45, 50]⟩ : ByteArray) (⟨#[49]⟩ : ByteArray)).bind fun t146 => (if t146 = (-1) then ((big_Good.f k (⟨#[48]⟩ : ByteArray)).bind fun t147 => (if t147 = true then ((big_Good.f k (⟨#[45, 48]⟩ : ByteArray)).bind fun t148 => (if t148 = true then (some false) else ((big_Good.f k (⟨#[]⟩ : ByteArray)).bind fun t149 => (some (!t149))))) else (some false))) else (some false))) else (some false))) else (some false))) else (some false))) else (some false)) = some r := H
        have A7 := Aside0.mk A70
        clear A70
        by_cases c8 : t142.toList = ([] : List UInt8)
        · rw [if_pos c8] at H
          have c8b0 : (t142.toList == ([] : List UInt8)) = true := beq_iff_eq.mpr c8
          have c8b1 : (t142.toList != ([] : List UInt8)) = false := bne_eq_false_iff_eq.mpr c8
          clear c8
          replace H := Option.bind_eq_some_iff.mp H
          obtain ⟨t143, A90, H⟩ := H
          replace H : (if t143.toList = ([55, 50, 53] : List UInt8) then ((big_Add.f k (⟨#[49]⟩ : ByteArray) (-2)).bind fun t144 => (if t144.toList = ([45, 49] : List UInt8) then ((big_Add.f k (⟨#[45, 49, 48]⟩ : ByteArray) 1).bind fun t145 => (if t145.toList = ([45, 57] : List UInt8) then ((big_Compare.f k (⟨#[45, 50]⟩ : ByteArray) (⟨#[49]⟩ : ByteArray)).bind fun t146 => (if t146 = (-1) then ((big_Good.f k (⟨#[48]⟩ : ByteArray)).bind fun t147 => (if t147 = true then ((big_Good.f k (⟨#[45, 48]⟩ : ByteArray)).bind fun t148 => (if t148 = true then (some false) else ((big_Good.f k (⟨#[]⟩ : ByteArray)).bind fun t149 => (some (!t149))))) else (some false))) else (some false))) else (some false))) else (some false))) else (some false)) = some r := H
          have A9 := Aside0.mk A90
          clear A90
          by_cases c10 : t143.toList = ([55, 50, 53] : List UInt8)
          · rw [if_pos c10] at H
            have c10b0 : (t143.toList == ([55, 50, 53] : List UInt8)) = true := beq_iff_eq.mpr c10
            have c10b1 : (t143.toList != ([55, 50, 53] : List UInt8)) = false := bne_eq_false_iff_eq.mpr c10
            clear c10
            replace H := Option.bind_eq_some_iff.mp H
            obtain ⟨t144, A110, H⟩ := H
            replace H : (if t144.toList = ([45, 49] : List UInt8) then ((big_Add.f k (⟨#[45, 49, 48]⟩ : ByteArray) 1).bind fun t145 => (if t145.toList = ([45, 57] : List UInt8) then ((big_Compare.f k (⟨#[45, 50]⟩ : ByteArray) (⟨#[49]⟩ : ByteArray)).bind fun t146 => (if t146 = (-1) then ((big_Good.f k (⟨#[48]⟩ : ByteArray)).bind fun t147 => (if t147 = true then ((big_Good.f k (⟨#[45, 48]⟩ : ByteArray)).bind fun t148 => (if t148 = true then (some false) else ((big_Good.f k (⟨#[]⟩ : ByteArray)).bind fun t149 => (some (!t149))))) else (some false))) else (some false))) else (some false))) else (some false)) = some r := H
            have A11 := Aside0.mk A110
            clear A110
            by_cases c12 : t144.toList = ([45, 49] : List UInt8)
            · rw [if_pos c12] at H
              have c12b0 : (t144.toList == ([45, 49] : List UInt8)) = true := beq_iff_eq.mpr c12
              have c12b1 : (t144.toList != ([45, 49] : List UInt8)) = false := bne_eq_false_iff_eq.mpr c12
              clear c12
              replace H := Option.bind_eq_some_iff.mp H
              obtain ⟨t145, A130, H⟩ := H
              replace H : (if t145.toList = ([45, 57] : List UInt8) then ((big_Compare.f k (⟨#[45, 50]⟩ : ByteArray) (⟨#[49]⟩ : ByteArray)).bind fun t146 => (if t146 = (-1) then ((big_Good.f k (⟨#[48]⟩ : ByteArray)).bind fun t147 => (if t147 = true then ((big_Good.f k (⟨#[45, 48]⟩ : ByteArray)).bind fun t148 => (if t148 = true then (some false) else ((big_Good.f k (⟨#[]⟩ : ByteArray)).bind fun t149 => (some (!t149))))) else (some false))) else (some false))) else (some false)) = some r := H
              have A13 := Aside0.mk A130
              clear A130
              by_cases c14 : t145.toList = ([45, 57] : List UInt8)
              · rw [if_pos c14] at H
                have c14b0 : (t145.toList == ([45, 57] : List UInt8)) = true := beq_iff_eq.mpr c14
                have c14b1 : (t145.toList != ([45, 57] : List UInt8)) = false := bne_eq_false_iff_eq.mpr c14
                clear c14
                replace H := Option.bind_eq_some_iff.mp H
                obtain ⟨t146, A150, H⟩ := H
                replace H : (if t146 = (-1) then ((big_Good.f k (⟨#[48]⟩ : ByteArray)).bind fun t147 => (if t147 = true then ((big_Good.f k (⟨#[45, 48]⟩ : ByteArray)).bind fun t148 => (if t148 = true then (some false) else ((big_Good.f k (⟨#[]⟩ : ByteArray)).bind fun t149 => (some (!t149))))) else (some false))) else (some false)) = some r := H
                have A15 := Aside0.mk A150
                clear A150
                by_cases c16 : t146 = (-1)
                · rw [if_pos c16] at H
                  have c16b0 : (t146 == (-1)) = true := beq_iff_eq.mpr c16
                  have c16b1 : (t146 != (-1)) = false := bne_eq_false_iff_eq.mpr c16
                  clear c16
                  replace H := Option.bind_eq_some_iff.mp H
                  obtain ⟨t147, A170, H⟩ := H
                  replace H : (if t147 = true then ((big_Good.f k (⟨#[45, 48]⟩ : ByteArray)).bind fun t148 => (if t148 = true then (some false) else ((big_Good.f k (⟨#[]⟩ : ByteArray)).bind fun t149 => (some (!t149))))) else (some false)) = some r := H
                  have A17 := Aside0.mk A170
                  clear A170
                  by_cases c18 : t147 = true
                  · subst c18
                    have H1 : ((big_Good.f k (⟨#[45, 48]⟩ : ByteArray)).bind fun t148 => (if t148 = true then (some false) else ((big_Good.f k (⟨#[]⟩ : ByteArray)).bind fun t149 => (some (!t149))))) = some r := by rw [if_pos rfl] at H; exact H
                    clear H
                    have H := H1
                    clear H1
                    replace H := Option.bind_eq_some_iff.mp H
                    obtain ⟨t148, A190, H⟩ := H
                    replace H : (if t148 = true then (some false) else ((big_Good.f k (⟨#[]⟩ : ByteArray)).bind fun t149 => (some (!t149)))) = some r := H
                    have A19 := Aside0.mk A190
                    clear A190
                    by_cases c20 : t148 = true
                    · subst c20
                      have H1 : (some false) = some r := by rw [if_pos rfl] at H; exact H
                      clear H
                      have H := H1
                      clear H1
                      obtain rfl := Option.some.inj H
                      go_enter Tryd.func14, Tryd.ntmps14
                      go_wp2_with (first | (go_at_call 18; (try (rename_i hK_; simp only [List.append] at hK_)); (with_reducible refine (big_Norm.calls k true (⟨#[48, 48, 55]⟩ : ByteArray) t139 _ A1.out).mono ?_); rintro e w21 ⟨rfl, hb⟩; have n0_ := Aside0.mk (below_step (by repeat (first | (with_reducible first | exact HB.out | apply below_alloc | apply pw_below_drewN | apply below_drew1) | exact HB.out)) hb); clear HB; have HB := n0_; clear n0_; (try clear hb); (try clear hb2); (try clear hk); (try clear hi)) | (go_at_call 18; (try (rename_i hK_; simp only [List.append] at hK_)); (with_reducible refine (big_Norm.calls k true (⟨#[48, 48]⟩ : ByteArray) t140 _ A3.out).mono ?_); rintro e w22 ⟨rfl, hb⟩; have n0_ := Aside0.mk (below_step (by repeat (first | (with_reducible first | exact HB.out | apply below_alloc | apply pw_below_drewN | apply below_drew1) | exact HB.out)) hb); clear HB; have HB := n0_; clear n0_; (try clear hb); (try clear hb2); (try clear hk); (try clear hi)) | (go_at_call 19; (try (rename_i hK_; simp only [List.append] at hK_)); (with_reducible refine (big_Base.calls k (⟨#[102, 70]⟩ : ByteArray) 16 t141 _ ?side1 A5.out).mono ?_); (case side1 => exact Go.Proofs.YtddaggnomcoejaaDoor.Room.PowTab_below HG.out (by repeat (first | (with_reducible first | exact HB.out | apply below_alloc | apply pw_below_drewN | apply below_drew1) | exact HB.out))); rintro e w23 ⟨rfl, hb⟩; have n0_ := Aside0.mk (below_step (by repeat (first | (with_reducible first | exact HB.out | apply below_alloc | apply pw_below_drewN | apply below_drew1) | exact HB.out)) hb); clear HB; have HB := n0_; clear n0_; (try clear hb); (try clear hb2); (try clear hk); (try clear hi)) | (go_at_call 19; (try (rename_i hK_; simp only [List.append] at hK_)); (with_reducible refine (big_Base.calls k (⟨#[56]⟩ : ByteArray) 8 t142 _ ?side1 A7.out).mono ?_); (case side1 => exact Go.Proofs.YtddaggnomcoejaaDoor.Room.PowTab_below HG.out (by repeat (first | (with_reducible first | exact HB.out | apply below_alloc | apply pw_below_drewN | apply below_drew1) | exact HB.out))); rintro e w24 ⟨rfl, hb⟩; have n0_ := Aside0.mk (below_step (by repeat (first | (with_reducible first | exact HB.out | apply below_alloc | apply pw_below_drewN | apply below_drew1) | exact HB.out)) hb); clear HB; have HB := n0_; clear n0_; (try clear hb); (try clear hb2); (try clear hk); (try clear hi)) | (go_at_call 21; (try (rename_i hK_; simp only [List.append] at hK_)); (with_reducible refine (big_MulAdd.calls k (⟨#[49, 50]⟩ : ByteArray) 60 5 t143 _ ?side1 A9.out).mono ?_); (case side1 => exact Go.Proofs.YtddaggnomcoejaaDoor.Room.PowTab_below HG.out (by repeat (first | (with_reducible first | exact HB.out | apply below_alloc | apply pw_below_drewN | apply below_drew1) | exact HB.out))); rintro e w25 ⟨rfl, hb⟩; have n0_ := Aside0.mk (below_step (by repeat (first | (with_reducible first | exact HB.out | apply below_alloc | apply pw_below_drewN | apply below_drew1) | exact HB.out)) hb); clear HB; have HB := n0_; clear n0_; (try clear hb); (try clear hb2); (try clear hk); (try clear hi)) | (go_at_call 23; (try (rename_i hK_; simp only [List.append] at hK_)); (with_reducible refine (big_Add.calls k (⟨#[49]⟩ : ByteArray) (-2) t144 _ ?side1 A11.out).mono ?_); (case side1 => exact Go.Proofs.YtddaggnomcoejaaDoor.Room.PowTab_below HG.out (by repeat (first | (with_reducible first | exact HB.out | apply below_alloc | apply pw_below_drewN | apply below_drew1) | exact HB.out))); rintro e w26 ⟨rfl, hb⟩; have n0_ := Aside0.mk (below_step (by repeat (first | (with_reducible first | exact HB.out | apply below_alloc | apply pw_below_drewN | apply below_drew1) | exact HB.out)) hb); clear HB; have HB := n0_; clear n0_; (try clear hb); (try clear hb2); (try clear hk); (try clear hi)) | (go_at_call 23; (try (rename_i hK_; simp only [List.append] at hK_)); (with_reducible refine (big_Add.calls k (⟨#[45, 49, 48]⟩ : ByteArray) 1 t145 _ ?side1 A13.out).mono ?_); (case side1 => exact Go.Proofs.YtddaggnomcoejaaDoor.Room.PowTab_below HG.out (by repeat (first | (with_reducible first | exact HB.out | apply below_alloc | apply pw_below_drewN | apply below_drew1) | exact HB.out))); rintro e w27 ⟨rfl, hb⟩; have n0_ := Aside0.mk (below_step (by repeat (first | (with_reducible first | exact HB.out | apply below_alloc | apply pw_below_drewN | apply below_drew1) | exact HB.out)) hb); clear HB; have HB := n0_; clear n0_; (try clear hb); (try clear hb2); (try clear hk); (try clear hi)) | (go_at_call 25; (try (rename_i hK_; simp only [List.append] at hK_)); (with_reducible refine (big_Compare.calls k (⟨#[45, 50]⟩ : ByteArray) (⟨#[49]⟩ : ByteArray) t146 _ A15.out).mono ?_); rintro e w28 ⟨rfl, hb⟩; have n0_ := Aside0.mk (below_step (by repeat (first | (with_reducible first | exact HB.out | apply below_alloc | apply pw_below_drewN | apply below_drew1) | exact HB.out)) hb); clear HB; have HB := n0_; clear n0_; (try clear hb); (try clear hb2); (try clear hk); (try clear hi)) | (go_at_call 16; (try (rename_i hK_; simp only [List.append] at hK_)); (with_reducible refine (big_Good.calls k (⟨#[48]⟩ : ByteArray) true _ A17.out).mono ?_); rintro e w' ⟨rfl, ⟨nd, rfl⟩⟩) | (go_at_call 16; (try (rename_i hK_; simp only [List.append] at hK_)); (with_reducible refine (big_Good.calls k (⟨#[45, 48]⟩ : ByteArray) true _ A19.out).mono ?_); rintro e w' ⟨rfl, ⟨nd, rfl⟩⟩))
                      go_ret
                      exact ⟨by first | rfl | (simp [errW_none, errW_some] <;> rfl) | (simp [*, errW_none, errW_some] <;> rfl) | ((generalize ByteArray.toList _ = z_); cases z_ <;> first | rfl | (simp; done)), by repeat (first | (with_reducible first | exact HB.out | apply below_alloc | apply pw_below_drewN | apply below_drew1) | exact HB.out)⟩
                    · replace c20 := Bool.eq_false_iff.mpr c20
                      subst c20
                      have H1 : ((big_Good.f k (⟨#[]⟩ : ByteArray)).bind fun t149 => (some (!t149))) = some r := by rw [if_neg (show ¬ (false = true) by decide)] at H; exact H
                      clear H
                      have H := H1
                      clear H1
                      replace H := Option.bind_eq_some_iff.mp H
                      obtain ⟨t149, A290, H⟩ := H
                      replace H : (some (!t149)) = some r := H
                      have A29 := Aside0.mk A290
                      clear A290
                      obtain rfl := Option.some.inj H
                      go_enter Tryd.func14, Tryd.ntmps14
                      go_wp2_with (first | (go_at_call 18; (try (rename_i hK_; simp only [List.append] at hK_)); (with_reducible refine (big_Norm.calls k true (⟨#[48, 48, 55]⟩ : ByteArray) t139 _ A1.out).mono ?_); rintro e w30 ⟨rfl, hb⟩; have n0_ := Aside0.mk (below_step (by repeat (first | (with_reducible first | exact HB.out | apply below_alloc | apply pw_below_drewN | apply below_drew1) | exact HB.out)) hb); clear HB; have HB := n0_; clear n0_; (try clear hb); (try clear hb2); (try clear hk); (try clear hi)) | (go_at_call 18; (try (rename_i hK_; simp only [List.append] at hK_)); (with_reducible refine (big_Norm.calls k true (⟨#[48, 48]⟩ : ByteArray) t140 _ A3.out).mono ?_); rintro e w31 ⟨rfl, hb⟩; have n0_ := Aside0.mk (below_step (by repeat (first | (with_reducible first | exact HB.out | apply below_alloc | apply pw_below_drewN | apply below_drew1) | exact HB.out)) hb); clear HB; have HB := n0_; clear n0_; (try clear hb); (try clear hb2); (try clear hk); (try clear hi)) | (go_at_call 19; (try (rename_i hK_; simp only [List.append] at hK_)); (with_reducible refine (big_Base.calls k (⟨#[102, 70]⟩ : ByteArray) 16 t141 _ ?side1 A5.out).mono ?_); (case side1 => exact Go.Proofs.YtddaggnomcoejaaDoor.Room.PowTab_below HG.out (by repeat (first | (with_reducible first | exact HB.out | apply below_alloc | apply pw_below_drewN | apply below_drew1) | exact HB.out))); rintro e w32 ⟨rfl, hb⟩; have n0_ := Aside0.mk (below_step (by repeat (first | (with_reducible first | exact HB.out | apply below_alloc | apply pw_below_drewN | apply below_drew1) | exact HB.out)) hb); clear HB; have HB := n0_; clear n0_; (try clear hb); (try clear hb2); (try clear hk); (try clear hi)) | (go_at_call 19; (try (rename_i hK_; simp only [List.append] at hK_)); (with_reducible refine (big_Base.calls k (⟨#[56]⟩ : ByteArray) 8 t142 _ ?side1 A7.out).mono ?_); (case side1 => exact Go.Proofs.YtddaggnomcoejaaDoor.Room.PowTab_below HG.out (by repeat (first | (with_reducible first | exact HB.out | apply below_alloc | apply pw_below_drewN | apply below_drew1) | exact HB.out))); rintro e w33 ⟨rfl, hb⟩; have n0_ := Aside0.mk (below_step (by repeat (first | (with_reducible first | exact HB.out | apply below_alloc | apply pw_below_drewN | apply below_drew1) | exact HB.out)) hb); clear HB; have HB := n0_; clear n0_; (try clear hb); (try clear hb2); (try clear hk); (try clear hi)) | (go_at_call 21; (try (rename_i hK_; simp only [List.append] at hK_)); (with_reducible refine (big_MulAdd.calls k (⟨#[49, 50]⟩ : ByteArray) 60 5 t143 _ ?side1 A9.out).mono ?_); (case side1 => exact Go.Proofs.YtddaggnomcoejaaDoor.Room.PowTab_below HG.out (by repeat (first | (with_reducible first | exact HB.out | apply below_alloc | apply pw_below_drewN | apply below_drew1) | exact HB.out))); rintro e w34 ⟨rfl, hb⟩; have n0_ := Aside0.mk (below_step (by repeat (first | (with_reducible first | exact HB.out | apply below_alloc | apply pw_below_drewN | apply below_drew1) | exact HB.out)) hb); clear HB; have HB := n0_; clear n0_; (try clear hb); (try clear hb2); (try clear hk); (try clear hi)) | (go_at_call 23; (try (rename_i hK_; simp only [List.append] at hK_)); (with_reducible refine (big_Add.calls k (⟨#[49]⟩ : ByteArray) (-2) t144 _ ?side1 A11.out).mono ?_); (case side1 => exact Go.Proofs.YtddaggnomcoejaaDoor.Room.PowTab_below HG.out (by repeat (first | (with_reducible first | exact HB.out | apply below_alloc | apply pw_below_drewN | apply below_drew1) | exact HB.out))); rintro e w35 ⟨rfl, hb⟩; have n0_ := Aside0.mk (below_step (by repeat (first | (with_reducible first | exact HB.out | apply below_alloc | apply pw_below_drewN | apply below_drew1) | exact HB.out)) hb); clear HB; have HB := n0_; clear n0_; (try clear hb); (try clear hb2); (try clear hk); (try clear hi)) | (go_at_call 23; (try (rename_i hK_; simp only [List.append] at hK_)); (with_reducible refine (big_Add.calls k (⟨#[45, 49, 48]⟩ : ByteArray) 1 t145 _ ?side1 A13.out).mono ?_); (case side1 => exact Go.Proofs.YtddaggnomcoejaaDoor.Room.PowTab_below HG.out (by repeat (first | (with_reducible first | exact HB.out | apply below_alloc | apply pw_below_drewN | apply below_drew1) | exact HB.out))); rintro e w36 ⟨rfl, hb⟩; have n0_ := Aside0.mk (below_step (by repeat (first | (with_reducible first | exact HB.out | apply below_alloc | apply pw_below_drewN | apply below_drew1) | exact HB.out)) hb); clear HB; have HB := n0_; clear n0_; (try clear hb); (try clear hb2); (try clear hk); (try clear hi)) | (go_at_call 25; (try (rename_i hK_; simp only [List.append] at hK_)); (with_reducible refine (big_Compare.calls k (⟨#[45, 50]⟩ : ByteArray) (⟨#[49]⟩ : ByteArray) t146 _ A15.out).mono ?_); rintro e w37 ⟨rfl, hb⟩; have n0_ := Aside0.mk (below_step (by repeat (first | (with_reducible first | exact HB.out | apply below_alloc | apply pw_below_drewN | apply below_drew1) | exact HB.out)) hb); clear HB; have HB := n0_; clear n0_; (try clear hb); (try clear hb2); (try clear hk); (try clear hi)) | (go_at_call 16; (try (rename_i hK_; simp only [List.append] at hK_)); (with_reducible refine (big_Good.calls k (⟨#[48]⟩ : ByteArray) true _ A17.out).mono ?_); rintro e w' ⟨rfl, ⟨nd, rfl⟩⟩) | (go_at_call 16; (try (rename_i hK_; simp only [List.append] at hK_)); (with_reducible refine (big_Good.calls k (⟨#[45, 48]⟩ : ByteArray) false _ A19.out).mono ?_); rintro e w' ⟨rfl, ⟨nd, rfl⟩⟩) | (go_at_call 16; (try (rename_i hK_; simp only [List.append] at hK_)); (with_reducible refine (big_Good.calls k (⟨#[]⟩ : ByteArray) t149 _ A29.out).mono ?_); rintro e w' ⟨rfl, ⟨nd, rfl⟩⟩))
                      go_ret
                      exact ⟨by first | rfl | (simp [errW_none, errW_some] <;> rfl) | (simp [*, errW_none, errW_some] <;> rfl) | ((generalize ByteArray.toList _ = z_); cases z_ <;> first | rfl | (simp; done)), by repeat (first | (with_reducible first | exact HB.out | apply below_alloc | apply pw_below_drewN | apply below_drew1) | exact HB.out)⟩
                  · replace c18 := Bool.eq_false_iff.mpr c18
                    subst c18
                    have H1 : (some false) = some r := by rw [if_neg (show ¬ (false = true) by decide)] at H; exact H
                    clear H
                    have H := H1
                    clear H1
                    obtain rfl := Option.some.inj H
                    go_enter Tryd.func14, Tryd.ntmps14
                    go_wp2_with (first | (go_at_call 18; (try (rename_i hK_; simp only [List.append] at hK_)); (with_reducible refine (big_Norm.calls k true (⟨#[48, 48, 55]⟩ : ByteArray) t139 _ A1.out).mono ?_); rintro e w38 ⟨rfl, hb⟩; have n0_ := Aside0.mk (below_step (by repeat (first | (with_reducible first | exact HB.out | apply below_alloc | apply pw_below_drewN | apply below_drew1) | exact HB.out)) hb); clear HB; have HB := n0_; clear n0_; (try clear hb); (try clear hb2); (try clear hk); (try clear hi)) | (go_at_call 18; (try (rename_i hK_; simp only [List.append] at hK_)); (with_reducible refine (big_Norm.calls k true (⟨#[48, 48]⟩ : ByteArray) t140 _ A3.out).mono ?_); rintro e w39 ⟨rfl, hb⟩; have n0_ := Aside0.mk (below_step (by repeat (first | (with_reducible first | exact HB.out | apply below_alloc | apply pw_below_drewN | apply below_drew1) | exact HB.out)) hb); clear HB; have HB := n0_; clear n0_; (try clear hb); (try clear hb2); (try clear hk); (try clear hi)) | (go_at_call 19; (try (rename_i hK_; simp only [List.append] at hK_)); (with_reducible refine (big_Base.calls k (⟨#[102, 70]⟩ : ByteArray) 16 t141 _ ?side1 A5.out).mono ?_); (case side1 => exact Go.Proofs.YtddaggnomcoejaaDoor.Room.PowTab_below HG.out (by repeat (first | (with_reducible first | exact HB.out | apply below_alloc | apply pw_below_drewN | apply below_drew1) | exact HB.out))); rintro e w40 ⟨rfl, hb⟩; have n0_ := Aside0.mk (below_step (by repeat (first | (with_reducible first | exact HB.out | apply below_alloc | apply pw_below_drewN | apply below_drew1) | exact HB.out)) hb); clear HB; have HB := n0_; clear n0_; (try clear hb); (try clear hb2); (try clear hk); (try clear hi)) | (go_at_call 19; (try (rename_i hK_; simp only [List.append] at hK_)); (with_reducible refine (big_Base.calls k (⟨#[56]⟩ : ByteArray) 8 t142 _ ?side1 A7.out).mono ?_); (case side1 => exact Go.Proofs.YtddaggnomcoejaaDoor.Room.PowTab_below HG.out (by repeat (first | (with_reducible first | exact HB.out | apply below_alloc | apply pw_below_drewN | apply below_drew1) | exact HB.out))); rintro e w41 ⟨rfl, hb⟩; have n0_ := Aside0.mk (below_step (by repeat (first | (with_reducible first | exact HB.out | apply below_alloc | apply pw_below_drewN | apply below_drew1) | exact HB.out)) hb); clear HB; have HB := n0_; clear n0_; (try clear hb); (try clear hb2); (try clear hk); (try clear hi)) | (go_at_call 21; (try (rename_i hK_; simp only [List.append] at hK_)); (with_reducible refine (big_MulAdd.calls k (⟨#[49, 50]⟩ : ByteArray) 60 5 t143 _ ?side1 A9.out).mono ?_); (case side1 => exact Go.Proofs.YtddaggnomcoejaaDoor.Room.PowTab_below HG.out (by repeat (first | (with_reducible first | exact HB.out | apply below_alloc | apply pw_below_drewN | apply below_drew1) | exact HB.out))); rintro e w42 ⟨rfl, hb⟩; have n0_ := Aside0.mk (below_step (by repeat (first | (with_reducible first | exact HB.out | apply below_alloc | apply pw_below_drewN | apply below_drew1) | exact HB.out)) hb); clear HB; have HB := n0_; clear n0_; (try clear hb); (try clear hb2); (try clear hk); (try clear hi)) | (go_at_call 23; (try (rename_i hK_; simp only [List.append] at hK_)); (with_reducible refine (big_Add.calls k (⟨#[49]⟩ : ByteArray) (-2) t144 _ ?side1 A11.out).mono ?_); (case side1 => exact Go.Proofs.YtddaggnomcoejaaDoor.Room.PowTab_below HG.out (by repeat (first | (with_reducible first | exact HB.out | apply below_alloc | apply pw_below_drewN | apply below_drew1) | exact HB.out))); rintro e w43 ⟨rfl, hb⟩; have n0_ := Aside0.mk (below_step (by repeat (first | (with_reducible first | exact HB.out | apply below_alloc | apply pw_below_drewN | apply below_drew1) | exact HB.out)) hb); clear HB; have HB := n0_; clear n0_; (try clear hb); (try clear hb2); (try clear hk); (try clear hi)) | (go_at_call 23; (try (rename_i hK_; simp only [List.append] at hK_)); (with_reducible refine (big_Add.calls k (⟨#[45, 49, 48]⟩ : ByteArray) 1 t145 _ ?side1 A13.out).mono ?_); (case side1 => exact Go.Proofs.YtddaggnomcoejaaDoor.Room.PowTab_below HG.out (by repeat (first | (with_reducible first | exact HB.out | apply below_alloc | apply pw_below_drewN | apply below_drew1) | exact HB.out))); rintro e w44 ⟨rfl, hb⟩; have n0_ := Aside0.mk (below_step (by repeat (first | (with_reducible first | exact HB.out | apply below_alloc | apply pw_below_drewN | apply below_drew1) | exact HB.out)) hb); clear HB; have HB := n0_; clear n0_; (try clear hb); (try clear hb2); (try clear hk); (try clear hi)) | (go_at_call 25; (try (rename_i hK_; simp only [List.append] at hK_)); (with_reducible refine (big_Compare.calls k (⟨#[45, 50]⟩ : ByteArray) (⟨#[49]⟩ : ByteArray) t146 _ A15.out).mono ?_); rintro e w45 ⟨rfl, hb⟩; have n0_ := Aside0.mk (below_step (by repeat (first | (with_reducible first | exact HB.out | apply below_alloc | apply pw_below_drewN | apply below_drew1) | exact HB.out)) hb); clear HB; have HB := n0_; clear n0_; (try clear hb); (try clear hb2); (try clear hk); (try clear hi)) | (go_at_call 16; (try (rename_i hK_; simp only [List.append] at hK_)); (with_reducible refine (big_Good.calls k (⟨#[48]⟩ : ByteArray) false _ A17.out).mono ?_); rintro e w' ⟨rfl, ⟨nd, rfl⟩⟩))
                    go_ret
                    exact ⟨by first | rfl | (simp [errW_none, errW_some] <;> rfl) | (simp [*, errW_none, errW_some] <;> rfl) | ((generalize ByteArray.toList _ = z_); cases z_ <;> first | rfl | (simp; done)), by repeat (first | (with_reducible first | exact HB.out | apply below_alloc | apply pw_below_drewN | apply below_drew1) | exact HB.out)⟩
                · rw [if_neg c16] at H
                  have c16b0 : (t146 == (-1)) = false := beq_eq_false_iff_ne.mpr c16
                  have c16b1 : (t146 != (-1)) = true := bne_iff_ne.mpr c16
                  obtain rfl := Option.some.inj H
                  go_enter Tryd.func14, Tryd.ntmps14
                  go_wp2_with (first | (go_at_call 18; (try (rename_i hK_; simp only [List.append] at hK_)); (with_reducible refine (big_Norm.calls k true (⟨#[48, 48, 55]⟩ : ByteArray) t139 _ A1.out).mono ?_); rintro e w46 ⟨rfl, hb⟩; have n0_ := Aside0.mk (below_step (by repeat (first | (with_reducible first | exact HB.out | apply below_alloc | apply pw_below_drewN | apply below_drew1) | exact HB.out)) hb); clear HB; have HB := n0_; clear n0_; (try clear hb); (try clear hb2); (try clear hk); (try clear hi)) | (go_at_call 18; (try (rename_i hK_; simp only [List.append] at hK_)); (with_reducible refine (big_Norm.calls k true (⟨#[48, 48]⟩ : ByteArray) t140 _ A3.out).mono ?_); rintro e w47 ⟨rfl, hb⟩; have n0_ := Aside0.mk (below_step (by repeat (first | (with_reducible first | exact HB.out | apply below_alloc | apply pw_below_drewN | apply below_drew1) | exact HB.out)) hb); clear HB; have HB := n0_; clear n0_; (try clear hb); (try clear hb2); (try clear hk); (try clear hi)) | (go_at_call 19; (try (rename_i hK_; simp only [List.append] at hK_)); (with_reducible refine (big_Base.calls k (⟨#[102, 70]⟩ : ByteArray) 16 t141 _ ?side1 A5.out).mono ?_); (case side1 => exact Go.Proofs.YtddaggnomcoejaaDoor.Room.PowTab_below HG.out (by repeat (first | (with_reducible first | exact HB.out | apply below_alloc | apply pw_below_drewN | apply below_drew1) | exact HB.out))); rintro e w48 ⟨rfl, hb⟩; have n0_ := Aside0.mk (below_step (by repeat (first | (with_reducible first | exact HB.out | apply below_alloc | apply pw_below_drewN | apply below_drew1) | exact HB.out)) hb); clear HB; have HB := n0_; clear n0_; (try clear hb); (try clear hb2); (try clear hk); (try clear hi)) | (go_at_call 19; (try (rename_i hK_; simp only [List.append] at hK_)); (with_reducible refine (big_Base.calls k (⟨#[56]⟩ : ByteArray) 8 t142 _ ?side1 A7.out).mono ?_); (case side1 => exact Go.Proofs.YtddaggnomcoejaaDoor.Room.PowTab_below HG.out (by repeat (first | (with_reducible first | exact HB.out | apply below_alloc | apply pw_below_drewN | apply below_drew1) | exact HB.out))); rintro e w49 ⟨rfl, hb⟩; have n0_ := Aside0.mk (below_step (by repeat (first | (with_reducible first | exact HB.out | apply below_alloc | apply pw_below_drewN | apply below_drew1) | exact HB.out)) hb); clear HB; have HB := n0_; clear n0_; (try clear hb); (try clear hb2); (try clear hk); (try clear hi)) | (go_at_call 21; (try (rename_i hK_; simp only [List.append] at hK_)); (with_reducible refine (big_MulAdd.calls k (⟨#[49, 50]⟩ : ByteArray) 60 5 t143 _ ?side1 A9.out).mono ?_); (case side1 => exact Go.Proofs.YtddaggnomcoejaaDoor.Room.PowTab_below HG.out (by repeat (first | (with_reducible first | exact HB.out | apply below_alloc | apply pw_below_drewN | apply below_drew1) | exact HB.out))); rintro e w50 ⟨rfl, hb⟩; have n0_ := Aside0.mk (below_step (by repeat (first | (with_reducible first | exact HB.out | apply below_alloc | apply pw_below_drewN | apply below_drew1) | exact HB.out)) hb); clear HB; have HB := n0_; clear n0_; (try clear hb); (try clear hb2); (try clear hk); (try clear hi)) | (go_at_call 23; (try (rename_i hK_; simp only [List.append] at hK_)); (with_reducible refine (big_Add.calls k (⟨#[49]⟩ : ByteArray) (-2) t144 _ ?side1 A11.out).mono ?_); (case side1 => exact Go.Proofs.YtddaggnomcoejaaDoor.Room.PowTab_below HG.out (by repeat (first | (with_reducible first | exact HB.out | apply below_alloc | apply pw_below_drewN | apply below_drew1) | exact HB.out))); rintro e w51 ⟨rfl, hb⟩; have n0_ := Aside0.mk (below_step (by repeat (first | (with_reducible first | exact HB.out | apply below_alloc | apply pw_below_drewN | apply below_drew1) | exact HB.out)) hb); clear HB; have HB := n0_; clear n0_; (try clear hb); (try clear hb2); (try clear hk); (try clear hi)) | (go_at_call 23; (try (rename_i hK_; simp only [List.append] at hK_)); (with_reducible refine (big_Add.calls k (⟨#[45, 49, 48]⟩ : ByteArray) 1 t145 _ ?side1 A13.out).mono ?_); (case side1 => exact Go.Proofs.YtddaggnomcoejaaDoor.Room.PowTab_below HG.out (by repeat (first | (with_reducible first | exact HB.out | apply below_alloc | apply pw_below_drewN | apply below_drew1) | exact HB.out))); rintro e w52 ⟨rfl, hb⟩; have n0_ := Aside0.mk (below_step (by repeat (first | (with_reducible first | exact HB.out | apply below_alloc | apply pw_below_drewN | apply below_drew1) | exact HB.out)) hb); clear HB; have HB := n0_; clear n0_; (try clear hb); (try clear hb2); (try clear hk); (try clear hi)) | (go_at_call 25; (try (rename_i hK_; simp only [List.append] at hK_)); (with_reducible refine (big_Compare.calls k (⟨#[45, 50]⟩ : ByteArray) (⟨#[49]⟩ : ByteArray) t146 _ A15.out).mono ?_); rintro e w53 ⟨rfl, hb⟩; have n0_ := Aside0.mk (below_step (by repeat (first | (with_reducible first | exact HB.out | apply below_alloc | apply pw_below_drewN | apply below_drew1) | exact HB.out)) hb); clear HB; have HB := n0_; clear n0_; (try clear hb); (try clear hb2); (try clear hk); (try clear hi)))
                  go_ret
                  exact ⟨by first | rfl | (simp [errW_none, errW_some] <;> rfl) | (simp [*, errW_none, errW_some] <;> rfl) | ((generalize ByteArray.toList _ = z_); cases z_ <;> first | rfl | (simp; done)), by repeat (first | (with_reducible first | exact HB.out | apply below_alloc | apply pw_below_drewN | apply below_drew1) | exact HB.out)⟩
              · rw [if_neg c14] at H
                have c14b0 : (t145.toList == ([45, 57] : List UInt8)) = false := beq_eq_false_iff_ne.mpr c14
                have c14b1 : (t145.toList != ([45, 57] : List UInt8)) = true := bne_iff_ne.mpr c14
                obtain rfl := Option.some.inj H
                go_enter Tryd.func14, Tryd.ntmps14
                go_wp2_with (first | (go_at_call 18; (try (rename_i hK_; simp only [List.append] at hK_)); (with_reducible refine (big_Norm.calls k true (⟨#[48, 48, 55]⟩ : ByteArray) t139 _ A1.out).mono ?_); rintro e w54 ⟨rfl, hb⟩; have n0_ := Aside0.mk (below_step (by repeat (first | (with_reducible first | exact HB.out | apply below_alloc | apply pw_below_drewN | apply below_drew1) | exact HB.out)) hb); clear HB; have HB := n0_; clear n0_; (try clear hb); (try clear hb2); (try clear hk); (try clear hi)) | (go_at_call 18; (try (rename_i hK_; simp only [List.append] at hK_)); (with_reducible refine (big_Norm.calls k true (⟨#[48, 48]⟩ : ByteArray) t140 _ A3.out).mono ?_); rintro e w55 ⟨rfl, hb⟩; have n0_ := Aside0.mk (below_step (by repeat (first | (with_reducible first | exact HB.out | apply below_alloc | apply pw_below_drewN | apply below_drew1) | exact HB.out)) hb); clear HB; have HB := n0_; clear n0_; (try clear hb); (try clear hb2); (try clear hk); (try clear hi)) | (go_at_call 19; (try (rename_i hK_; simp only [List.append] at hK_)); (with_reducible refine (big_Base.calls k (⟨#[102, 70]⟩ : ByteArray) 16 t141 _ ?side1 A5.out).mono ?_); (case side1 => exact Go.Proofs.YtddaggnomcoejaaDoor.Room.PowTab_below HG.out (by repeat (first | (with_reducible first | exact HB.out | apply below_alloc | apply pw_below_drewN | apply below_drew1) | exact HB.out))); rintro e w56 ⟨rfl, hb⟩; have n0_ := Aside0.mk (below_step (by repeat (first | (with_reducible first | exact HB.out | apply below_alloc | apply pw_below_drewN | apply below_drew1) | exact HB.out)) hb); clear HB; have HB := n0_; clear n0_; (try clear hb); (try clear hb2); (try clear hk); (try clear hi)) | (go_at_call 19; (try (rename_i hK_; simp only [List.append] at hK_)); (with_reducible refine (big_Base.calls k (⟨#[56]⟩ : ByteArray) 8 t142 _ ?side1 A7.out).mono ?_); (case side1 => exact Go.Proofs.YtddaggnomcoejaaDoor.Room.PowTab_below HG.out (by repeat (first | (with_reducible first | exact HB.out | apply below_alloc | apply pw_below_drewN | apply below_drew1) | exact HB.out))); rintro e w57 ⟨rfl, hb⟩; have n0_ := Aside0.mk (below_step (by repeat (first | (with_reducible first | exact HB.out | apply below_alloc | apply pw_below_drewN | apply below_drew1) | exact HB.out)) hb); clear HB; have HB := n0_; clear n0_; (try clear hb); (try clear hb2); (try clear hk); (try clear hi)) | (go_at_call 21; (try (rename_i hK_; simp only [List.append] at hK_)); (with_reducible refine (big_MulAdd.calls k (⟨#[49, 50]⟩ : ByteArray) 60 5 t143 _ ?side1 A9.out).mono ?_); (case side1 => exact Go.Proofs.YtddaggnomcoejaaDoor.Room.PowTab_below HG.out (by repeat (first | (with_reducible first | exact HB.out | apply below_alloc | apply pw_below_drewN | apply below_drew1) | exact HB.out))); rintro e w58 ⟨rfl, hb⟩; have n0_ := Aside0.mk (below_step (by repeat (first | (with_reducible first | exact HB.out | apply below_alloc | apply pw_below_drewN | apply below_drew1) | exact HB.out)) hb); clear HB; have HB := n0_; clear n0_; (try clear hb); (try clear hb2); (try clear hk); (try clear hi)) | (go_at_call 23; (try (rename_i hK_; simp only [List.append] at hK_)); (with_reducible refine (big_Add.calls k (⟨#[49]⟩ : ByteArray) (-2) t144 _ ?side1 A11.out).mono ?_); (case side1 => exact Go.Proofs.YtddaggnomcoejaaDoor.Room.PowTab_below HG.out (by repeat (first | (with_reducible first | exact HB.out | apply below_alloc | apply pw_below_drewN | apply below_drew1) | exact HB.out))); rintro e w59 ⟨rfl, hb⟩; have n0_ := Aside0.mk (below_step (by repeat (first | (with_reducible first | exact HB.out | apply below_alloc | apply pw_below_drewN | apply below_drew1) | exact HB.out)) hb); clear HB; have HB := n0_; clear n0_; (try clear hb); (try clear hb2); (try clear hk); (try clear hi)) | (go_at_call 23; (try (rename_i hK_; simp only [List.append] at hK_)); (with_reducible refine (big_Add.calls k (⟨#[45, 49, 48]⟩ : ByteArray) 1 t145 _ ?side1 A13.out).mono ?_); (case side1 => exact Go.Proofs.YtddaggnomcoejaaDoor.Room.PowTab_below HG.out (by repeat (first | (with_reducible first | exact HB.out | apply below_alloc | apply pw_below_drewN | apply below_drew1) | exact HB.out))); rintro e w60 ⟨rfl, hb⟩; have n0_ := Aside0.mk (below_step (by repeat (first | (with_reducible first | exact HB.out | apply below_alloc | apply pw_below_drewN | apply below_drew1) | exact HB.out)) hb); clear HB; have HB := n0_; clear n0_; (try clear hb); (try clear hb2); (try clear hk); (try clear hi)))
                go_ret
                exact ⟨by first | rfl | (simp [errW_none, errW_some] <;> rfl) | (simp [*, errW_none, errW_some] <;> rfl) | ((generalize ByteArray.toList _ = z_); cases z_ <;> first | rfl | (simp; done)), by repeat (first | (with_reducible first | exact HB.out | apply below_alloc | apply pw_below_drewN | apply below_drew1) | exact HB.out)⟩
            · rw [if_neg c12] at H
              have c12b0 : (t144.toList == ([45, 49] : List UInt8)) = false := beq_eq_false_iff_ne.mpr c12
              have c12b1 : (t144.toList != ([45, 49] : List UInt8)) = true := bne_iff_ne.mpr c12
              obtain rfl := Option.some.inj H
              go_enter Tryd.func14, Tryd.ntmps14
              go_wp2_with (first | (go_at_call 18; (try (rename_i hK_; simp only [List.append] at hK_)); (with_reducible refine (big_Norm.calls k true (⟨#[48, 48, 55]⟩ : ByteArray) t139 _ A1.out).mono ?_); rintro e w61 ⟨rfl, hb⟩; have n0_ := Aside0.mk (below_step (by repeat (first | (with_reducible first | exact HB.out | apply below_alloc | apply pw_below_drewN | apply below_drew1) | exact HB.out)) hb); clear HB; have HB := n0_; clear n0_; (try clear hb); (try clear hb2); (try clear hk); (try clear hi)) | (go_at_call 18; (try (rename_i hK_; simp only [List.append] at hK_)); (with_reducible refine (big_Norm.calls k true (⟨#[48, 48]⟩ : ByteArray) t140 _ A3.out).mono ?_); rintro e w62 ⟨rfl, hb⟩; have n0_ := Aside0.mk (below_step (by repeat (first | (with_reducible first | exact HB.out | apply below_alloc | apply pw_below_drewN | apply below_drew1) | exact HB.out)) hb); clear HB; have HB := n0_; clear n0_; (try clear hb); (try clear hb2); (try clear hk); (try clear hi)) | (go_at_call 19; (try (rename_i hK_; simp only [List.append] at hK_)); (with_reducible refine (big_Base.calls k (⟨#[102, 70]⟩ : ByteArray) 16 t141 _ ?side1 A5.out).mono ?_); (case side1 => exact Go.Proofs.YtddaggnomcoejaaDoor.Room.PowTab_below HG.out (by repeat (first | (with_reducible first | exact HB.out | apply below_alloc | apply pw_below_drewN | apply below_drew1) | exact HB.out))); rintro e w63 ⟨rfl, hb⟩; have n0_ := Aside0.mk (below_step (by repeat (first | (with_reducible first | exact HB.out | apply below_alloc | apply pw_below_drewN | apply below_drew1) | exact HB.out)) hb); clear HB; have HB := n0_; clear n0_; (try clear hb); (try clear hb2); (try clear hk); (try clear hi)) | (go_at_call 19; (try (rename_i hK_; simp only [List.append] at hK_)); (with_reducible refine (big_Base.calls k (⟨#[56]⟩ : ByteArray) 8 t142 _ ?side1 A7.out).mono ?_); (case side1 => exact Go.Proofs.YtddaggnomcoejaaDoor.Room.PowTab_below HG.out (by repeat (first | (with_reducible first | exact HB.out | apply below_alloc | apply pw_below_drewN | apply below_drew1) | exact HB.out))); rintro e w64 ⟨rfl, hb⟩; have n0_ := Aside0.mk (below_step (by repeat (first | (with_reducible first | exact HB.out | apply below_alloc | apply pw_below_drewN | apply below_drew1) | exact HB.out)) hb); clear HB; have HB := n0_; clear n0_; (try clear hb); (try clear hb2); (try clear hk); (try clear hi)) | (go_at_call 21; (try (rename_i hK_; simp only [List.append] at hK_)); (with_reducible refine (big_MulAdd.calls k (⟨#[49, 50]⟩ : ByteArray) 60 5 t143 _ ?side1 A9.out).mono ?_); (case side1 => exact Go.Proofs.YtddaggnomcoejaaDoor.Room.PowTab_below HG.out (by repeat (first | (with_reducible first | exact HB.out | apply below_alloc | apply pw_below_drewN | apply below_drew1) | exact HB.out))); rintro e w65 ⟨rfl, hb⟩; have n0_ := Aside0.mk (below_step (by repeat (first | (with_reducible first | exact HB.out | apply below_alloc | apply pw_below_drewN | apply below_drew1) | exact HB.out)) hb); clear HB; have HB := n0_; clear n0_; (try clear hb); (try clear hb2); (try clear hk); (try clear hi)) | (go_at_call 23; (try (rename_i hK_; simp only [List.append] at hK_)); (with_reducible refine (big_Add.calls k (⟨#[49]⟩ : ByteArray) (-2) t144 _ ?side1 A11.out).mono ?_); (case side1 => exact Go.Proofs.YtddaggnomcoejaaDoor.Room.PowTab_below HG.out (by repeat (first | (with_reducible first | exact HB.out | apply below_alloc | apply pw_below_drewN | apply below_drew1) | exact HB.out))); rintro e w66 ⟨rfl, hb⟩; have n0_ := Aside0.mk (below_step (by repeat (first | (with_reducible first | exact HB.out | apply below_alloc | apply pw_below_drewN | apply below_drew1) | exact HB.out)) hb); clear HB; have HB := n0_; clear n0_; (try clear hb); (try clear hb2); (try clear hk); (try clear hi)))
              go_ret
              exact ⟨by first | rfl | (simp [errW_none, errW_some] <;> rfl) | (simp [*, errW_none, errW_some] <;> rfl) | ((generalize ByteArray.toList _ = z_); cases z_ <;> first | rfl | (simp; done)), by repeat (first | (with_reducible first | exact HB.out | apply below_alloc | apply pw_below_drewN | apply below_drew1) | exact HB.out)⟩
          · rw [if_neg c10] at H
            have c10b0 : (t143.toList == ([55, 50, 53] : List UInt8)) = false := beq_eq_false_iff_ne.mpr c10
            have c10b1 : (t143.toList != ([55, 50, 53] : List UInt8)) = true := bne_iff_ne.mpr c10
            obtain rfl := Option.some.inj H
            go_enter Tryd.func14, Tryd.ntmps14
            go_wp2_with (first | (go_at_call 18; (try (rename_i hK_; simp only [List.append] at hK_)); (with_reducible refine (big_Norm.calls k true (⟨#[48, 48, 55]⟩ : ByteArray) t139 _ A1.out).mono ?_); rintro e w67 ⟨rfl, hb⟩; have n0_ := Aside0.mk (below_step (by repeat (first | (with_reducible first | exact HB.out | apply below_alloc | apply pw_below_drewN | apply below_drew1) | exact HB.out)) hb); clear HB; have HB := n0_; clear n0_; (try clear hb); (try clear hb2); (try clear hk); (try clear hi)) | (go_at_call 18; (try (rename_i hK_; simp only [List.append] at hK_)); (with_reducible refine (big_Norm.calls k true (⟨#[48, 48]⟩ : ByteArray) t140 _ A3.out).mono ?_); rintro e w68 ⟨rfl, hb⟩; have n0_ := Aside0.mk (below_step (by repeat (first | (with_reducible first | exact HB.out | apply below_alloc | apply pw_below_drewN | apply below_drew1) | exact HB.out)) hb); clear HB; have HB := n0_; clear n0_; (try clear hb); (try clear hb2); (try clear hk); (try clear hi)) | (go_at_call 19; (try (rename_i hK_; simp only [List.append] at hK_)); (with_reducible refine (big_Base.calls k (⟨#[102, 70]⟩ : ByteArray) 16 t141 _ ?side1 A5.out).mono ?_); (case side1 => exact Go.Proofs.YtddaggnomcoejaaDoor.Room.PowTab_below HG.out (by repeat (first | (with_reducible first | exact HB.out | apply below_alloc | apply pw_below_drewN | apply below_drew1) | exact HB.out))); rintro e w69 ⟨rfl, hb⟩; have n0_ := Aside0.mk (below_step (by repeat (first | (with_reducible first | exact HB.out | apply below_alloc | apply pw_below_drewN | apply below_drew1) | exact HB.out)) hb); clear HB; have HB := n0_; clear n0_; (try clear hb); (try clear hb2); (try clear hk); (try clear hi)) | (go_at_call 19; (try (rename_i hK_; simp only [List.append] at hK_)); (with_reducible refine (big_Base.calls k (⟨#[56]⟩ : ByteArray) 8 t142 _ ?side1 A7.out).mono ?_); (case side1 => exact Go.Proofs.YtddaggnomcoejaaDoor.Room.PowTab_below HG.out (by repeat (first | (with_reducible first | exact HB.out | apply below_alloc | apply pw_below_drewN | apply below_drew1) | exact HB.out))); rintro e w70 ⟨rfl, hb⟩; have n0_ := Aside0.mk (below_step (by repeat (first | (with_reducible first | exact HB.out | apply below_alloc | apply pw_below_drewN | apply below_drew1) | exact HB.out)) hb); clear HB; have HB := n0_; clear n0_; (try clear hb); (try clear hb2); (try clear hk); (try clear hi)) | (go_at_call 21; (try (rename_i hK_; simp only [List.append] at hK_)); (with_reducible refine (big_MulAdd.calls k (⟨#[49, 50]⟩ : ByteArray) 60 5 t143 _ ?side1 A9.out).mono ?_); (case side1 => exact Go.Proofs.YtddaggnomcoejaaDoor.Room.PowTab_below HG.out (by repeat (first | (with_reducible first | exact HB.out | apply below_alloc | apply pw_below_drewN | apply below_drew1) | exact HB.out))); rintro e w71 ⟨rfl, hb⟩; have n0_ := Aside0.mk (below_step (by repeat (first | (with_reducible first | exact HB.out | apply below_alloc | apply pw_below_drewN | apply below_drew1) | exact HB.out)) hb); clear HB; have HB := n0_; clear n0_; (try clear hb); (try clear hb2); (try clear hk); (try clear hi)))
            go_ret
            exact ⟨by first | rfl | (simp [errW_none, errW_some] <;> rfl) | (simp [*, errW_none, errW_some] <;> rfl) | ((generalize ByteArray.toList _ = z_); cases z_ <;> first | rfl | (simp; done)), by repeat (first | (with_reducible first | exact HB.out | apply below_alloc | apply pw_below_drewN | apply below_drew1) | exact HB.out)⟩
        · rw [if_neg c8] at H
          have c8b0 : (t142.toList == ([] : List UInt8)) = false := beq_eq_false_iff_ne.mpr c8
          have c8b1 : (t142.toList != ([] : List UInt8)) = true := bne_iff_ne.mpr c8
          obtain rfl := Option.some.inj H
          go_enter Tryd.func14, Tryd.ntmps14
          go_wp2_with (first | (go_at_call 18; (try (rename_i hK_; simp only [List.append] at hK_)); (with_reducible refine (big_Norm.calls k true (⟨#[48, 48, 55]⟩ : ByteArray) t139 _ A1.out).mono ?_); rintro e w72 ⟨rfl, hb⟩; have n0_ := Aside0.mk (below_step (by repeat (first | (with_reducible first | exact HB.out | apply below_alloc | apply pw_below_drewN | apply below_drew1) | exact HB.out)) hb); clear HB; have HB := n0_; clear n0_; (try clear hb); (try clear hb2); (try clear hk); (try clear hi)) | (go_at_call 18; (try (rename_i hK_; simp only [List.append] at hK_)); (with_reducible refine (big_Norm.calls k true (⟨#[48, 48]⟩ : ByteArray) t140 _ A3.out).mono ?_); rintro e w73 ⟨rfl, hb⟩; have n0_ := Aside0.mk (below_step (by repeat (first | (with_reducible first | exact HB.out | apply below_alloc | apply pw_below_drewN | apply below_drew1) | exact HB.out)) hb); clear HB; have HB := n0_; clear n0_; (try clear hb); (try clear hb2); (try clear hk); (try clear hi)) | (go_at_call 19; (try (rename_i hK_; simp only [List.append] at hK_)); (with_reducible refine (big_Base.calls k (⟨#[102, 70]⟩ : ByteArray) 16 t141 _ ?side1 A5.out).mono ?_); (case side1 => exact Go.Proofs.YtddaggnomcoejaaDoor.Room.PowTab_below HG.out (by repeat (first | (with_reducible first | exact HB.out | apply below_alloc | apply pw_below_drewN | apply below_drew1) | exact HB.out))); rintro e w74 ⟨rfl, hb⟩; have n0_ := Aside0.mk (below_step (by repeat (first | (with_reducible first | exact HB.out | apply below_alloc | apply pw_below_drewN | apply below_drew1) | exact HB.out)) hb); clear HB; have HB := n0_; clear n0_; (try clear hb); (try clear hb2); (try clear hk); (try clear hi)) | (go_at_call 19; (try (rename_i hK_; simp only [List.append] at hK_)); (with_reducible refine (big_Base.calls k (⟨#[56]⟩ : ByteArray) 8 t142 _ ?side1 A7.out).mono ?_); (case side1 => exact Go.Proofs.YtddaggnomcoejaaDoor.Room.PowTab_below HG.out (by repeat (first | (with_reducible first | exact HB.out | apply below_alloc | apply pw_below_drewN | apply below_drew1) | exact HB.out))); rintro e w75 ⟨rfl, hb⟩; have n0_ := Aside0.mk (below_step (by repeat (first | (with_reducible first | exact HB.out | apply below_alloc | apply pw_below_drewN | apply below_drew1) | exact HB.out)) hb); clear HB; have HB := n0_; clear n0_; (try clear hb); (try clear hb2); (try clear hk); (try clear hi)))
          go_ret
          exact ⟨by first | rfl | (simp [errW_none, errW_some] <;> rfl) | (simp [*, errW_none, errW_some] <;> rfl) | ((generalize ByteArray.toList _ = z_); cases z_ <;> first | rfl | (simp; done)), by repeat (first | (with_reducible first | exact HB.out | apply below_alloc | apply pw_below_drewN | apply below_drew1) | exact HB.out)⟩
      · rw [if_neg c6] at H
        have c6b0 : (t141.toList == ([50, 53, 53] : List UInt8)) = false := beq_eq_false_iff_ne.mpr c6
        have c6b1 : (t141.toList != ([50, 53, 53] : List UInt8)) = true := bne_iff_ne.mpr c6
        obtain rfl := Option.some.inj H
        go_enter Tryd.func14, Tryd.ntmps14
        go_wp2_with (first | (go_at_call 18; (try (rename_i hK_; simp only [List.append] at hK_)); (with_reducible refine (big_Norm.calls k true (⟨#[48, 48, 55]⟩ : ByteArray) t139 _ A1.out).mono ?_); rintro e w76 ⟨rfl, hb⟩; have n0_ := Aside0.mk (below_step (by repeat (first | (with_reducible first | exact HB.out | apply below_alloc | apply pw_below_drewN | apply below_drew1) | exact HB.out)) hb); clear HB; have HB := n0_; clear n0_; (try clear hb); (try clear hb2); (try clear hk); (try clear hi)) | (go_at_call 18; (try (rename_i hK_; simp only [List.append] at hK_)); (with_reducible refine (big_Norm.calls k true (⟨#[48, 48]⟩ : ByteArray) t140 _ A3.out).mono ?_); rintro e w77 ⟨rfl, hb⟩; have n0_ := Aside0.mk (below_step (by repeat (first | (with_reducible first | exact HB.out | apply below_alloc | apply pw_below_drewN | apply below_drew1) | exact HB.out)) hb); clear HB; have HB := n0_; clear n0_; (try clear hb); (try clear hb2); (try clear hk); (try clear hi)) | (go_at_call 19; (try (rename_i hK_; simp only [List.append] at hK_)); (with_reducible refine (big_Base.calls k (⟨#[102, 70]⟩ : ByteArray) 16 t141 _ ?side1 A5.out).mono ?_); (case side1 => exact Go.Proofs.YtddaggnomcoejaaDoor.Room.PowTab_below HG.out (by repeat (first | (with_reducible first | exact HB.out | apply below_alloc | apply pw_below_drewN | apply below_drew1) | exact HB.out))); rintro e w78 ⟨rfl, hb⟩; have n0_ := Aside0.mk (below_step (by repeat (first | (with_reducible first | exact HB.out | apply below_alloc | apply pw_below_drewN | apply below_drew1) | exact HB.out)) hb); clear HB; have HB := n0_; clear n0_; (try clear hb); (try clear hb2); (try clear hk); (try clear hi)))
        go_ret
        exact ⟨by first | rfl | (simp [errW_none, errW_some] <;> rfl) | (simp [*, errW_none, errW_some] <;> rfl) | ((generalize ByteArray.toList _ = z_); cases z_ <;> first | rfl | (simp; done)), by repeat (first | (with_reducible first | exact HB.out | apply below_alloc | apply pw_below_drewN | apply below_drew1) | exact HB.out)⟩
    · rw [if_neg c4] at H
      have c4b0 : (t140.toList == ([48] : List UInt8)) = false := beq_eq_false_iff_ne.mpr c4
      have c4b1 : (t140.toList != ([48] : List UInt8)) = true := bne_iff_ne.mpr c4
      obtain rfl := Option.some.inj H
      go_enter Tryd.func14, Tryd.ntmps14
      go_wp2_with (first | (go_at_call 18; (try (rename_i hK_; simp only [List.append] at hK_)); (with_reducible refine (big_Norm.calls k true (⟨#[48, 48, 55]⟩ : ByteArray) t139 _ A1.out).mono ?_); rintro e w79 ⟨rfl, hb⟩; have n0_ := Aside0.mk (below_step (by repeat (first | (with_reducible first | exact HB.out | apply below_alloc | apply pw_below_drewN | apply below_drew1) | exact HB.out)) hb); clear HB; have HB := n0_; clear n0_; (try clear hb); (try clear hb2); (try clear hk); (try clear hi)) | (go_at_call 18; (try (rename_i hK_; simp only [List.append] at hK_)); (with_reducible refine (big_Norm.calls k true (⟨#[48, 48]⟩ : ByteArray) t140 _ A3.out).mono ?_); rintro e w80 ⟨rfl, hb⟩; have n0_ := Aside0.mk (below_step (by repeat (first | (with_reducible first | exact HB.out | apply below_alloc | apply pw_below_drewN | apply below_drew1) | exact HB.out)) hb); clear HB; have HB := n0_; clear n0_; (try clear hb); (try clear hb2); (try clear hk); (try clear hi)))
      go_ret
      exact ⟨by first | rfl | (simp [errW_none, errW_some] <;> rfl) | (simp [*, errW_none, errW_some] <;> rfl) | ((generalize ByteArray.toList _ = z_); cases z_ <;> first | rfl | (simp; done)), by repeat (first | (with_reducible first | exact HB.out | apply below_alloc | apply pw_below_drewN | apply below_drew1) | exact HB.out)⟩
  · rw [if_neg c2] at H
    have c2b0 : (t139.toList == ([45, 55] : List UInt8)) = false := beq_eq_false_iff_ne.mpr c2
    have c2b1 : (t139.toList != ([45, 55] : List UInt8)) = true := bne_iff_ne.mpr c2
    obtain rfl := Option.some.inj H
    go_enter Tryd.func14, Tryd.ntmps14
    go_wp2_with (first | (go_at_call 18; (try (rename_i hK_; simp only [List.append] at hK_)); (with_reducible refine (big_Norm.calls k true (⟨#[48, 48, 55]⟩ : ByteArray) t139 _ A1.out).mono ?_); rintro e w81 ⟨rfl, hb⟩; have n0_ := Aside0.mk (below_step (by repeat (first | (with_reducible first | exact HB.out | apply below_alloc | apply pw_below_drewN | apply below_drew1) | exact HB.out)) hb); clear HB; have HB := n0_; clear n0_; (try clear hb); (try clear hb2); (try clear hk); (try clear hi)))
    go_ret
    exact ⟨by first | rfl | (simp [errW_none, errW_some] <;> rfl) | (simp [*, errW_none, errW_some] <;> rfl) | ((generalize ByteArray.toList _ = z_); cases z_ <;> first | rfl | (simp; done)), by repeat (first | (with_reducible first | exact HB.out | apply below_alloc | apply pw_below_drewN | apply below_drew1) | exact HB.out)⟩

/-! ### targumref4_IsDigit: function 60 -/
def targumref4_IsDigit.f (a0 : Int) : Option (Bool) := if a0 ≥ 48 then (some (decide (a0 ≤ 57))) else (some false)
set_option maxHeartbeats 40000000 in
set_option maxRecDepth 100000 in
theorem targumref4_IsDigit.calls (a0 : Int) (r : Bool) (w : World) (h : targumref4_IsDigit.f a0 = some r) :
    Calls Tryd.prog 60 #[.int .u8 a0] w fun e w' => e = .returned (.bool r) ∧ Drawn0 w w' := by
  have H : (if a0 ≥ 48 then (some (decide (a0 ≤ 57))) else (some false)) = some r := h
  clear h
  by_cases c2 : a0 ≥ 48
  · rw [if_pos c2] at H
    have c2b0 : decide (48 ≤ a0) = true := decide_eq_true c2
    clear c2
    obtain rfl := Option.some.inj H
    go_enter Tryd.func60, Tryd.ntmps60
    go_wp2
    go_ret
    exact ⟨by first | rfl | (simp; done) | (simp [*]; done) | (simp [wrap64]; done) | (simp; (generalize ByteArray.toList _ = z_); cases z_ <;> first | rfl | simp), by repeat (first | exact Drawn0.refl _ | apply Drawn0.step)⟩
  · rw [if_neg c2] at H
    have c2b0 : decide (48 ≤ a0) = false := decide_eq_false c2
    clear c2
    obtain rfl := Option.some.inj H
    go_enter Tryd.func60, Tryd.ntmps60
    go_wp2
    go_ret
    exact ⟨by first | rfl | (simp; done) | (simp [*]; done) | (simp [wrap64]; done) | (simp; (generalize ByteArray.toList _ = z_); cases z_ <;> first | rfl | simp), by repeat (first | exact Drawn0.refl _ | apply Drawn0.step)⟩

/-! ### targumref4_Digits: function 38 -/
def targumref4_Digits.l0 : Nat → ByteArray → Int → Option (Bool)
  | 0, _, _ => none
  | k + 1, x0, x3 => if x3 < (x0.size : Int) then (if 0 ≤ x3 then ((targumref4_IsDigit.f (bt x0 x3)).bind fun t150 => (if t150 = true then (targumref4_Digits.l0 k x0 (wrap64 (x3 + 1))) else (some false))) else (none)) else (some (decide ((x0.size : Int) > 0)))
def targumref4_Digits.f (k : Nat) (a0 : ByteArray) : Option (Bool) := targumref4_Digits.l0 k a0 0
theorem targumref4_Digits.mono_l : ∀ k, (∀ y0 y1, LeO (targumref4_Digits.l0 k y0 y1) (targumref4_Digits.l0 (k + 1) y0 y1))
  | 0 => fun _ _ r h => by simp [targumref4_Digits.l0] at h
  | k + 1 => by
    have ih0 := targumref4_Digits.mono_l k
    · intro y0 y1
      unfold targumref4_Digits.l0
      repeat' first
      | (with_reducible exact ih0 _ _)
      | (with_reducible exact LeO.refl _)
      | (with_reducible exact LeO.none _)
      | (with_reducible refine LeO.ite ?_ ?_)
      | (with_reducible refine LeO.bind ?_ (fun _ => ?_))
      | exact ih0 _ _
      | exact LeO.none _
      | refine LeO.ite ?_ ?_
      | refine LeO.bind ?_ (fun _ => ?_)
theorem targumref4_Digits.mono : ∀ a0 k, LeO (targumref4_Digits.f k a0) (targumref4_Digits.f (k + 1) a0) := by
  intro a0 k
  have ih0 := targumref4_Digits.mono_l k
  unfold targumref4_Digits.f
  repeat' first
      | (with_reducible exact ih0 _ _)
      | (with_reducible exact LeO.refl _)
      | (with_reducible exact LeO.none _)
      | (with_reducible refine LeO.ite ?_ ?_)
      | (with_reducible refine LeO.bind ?_ (fun _ => ?_))
      | exact ih0 _ _
      | exact LeO.none _
      | refine LeO.ite ?_ ?_
      | refine LeO.bind ?_ (fun _ => ?_)
set_option maxHeartbeats 40000000 in
set_option maxRecDepth 100000 in
theorem targumref4_Digits.calls (k : Nat) (a0 : ByteArray) (r : Bool) (w : World) (h : targumref4_Digits.f k a0 = some r) :
    Calls Tryd.prog 38 #[.string a0] w fun e w' => e = .returned (.bool r) ∧ Drawn0 w w' := by
  have H : (targumref4_Digits.l0 k a0 0) = some r := h
  clear h
  have H' := Aside0.mk H
  clear H
  go_enter Tryd.func38, Tryd.ntmps38
  go_wp2
  go_loopg [3] k (fun kq v3 w' => ∃ (x3_1 : Int), v3 = .int .i64 x3_1 ∧ Aside0 (targumref4_Digits.l0 kq a0 x3_1 = some r) ∧ Aside0 (kq ≤ k) ∧ Drawn0 w w')
  case atStart => exact ⟨(0), (by first | rfl | (simp; done) | (simp [*]; done) | (simp [wrap64]; done)), H', ⟨Nat.le_refl _⟩, by repeat (first | exact Drawn0.refl _ | apply Drawn0.step)⟩
  case round =>
    clear H'
    obtain ⟨x3_1, rfl, HA, HK1, ⟨m1, rfl⟩⟩ := hrel
    cases gk with
    | zero => exact absurd HA.out (by simp [targumref4_Digits.l0])
    | succ k1 =>
      have H := HA.out
      clear HA
      simp only [targumref4_Digits.l0] at H
      by_cases c2 : x3_1 < (a0.size : Int)
      · rw [if_pos c2] at H
        have c2b0 : decide (x3_1 < (a0.size : Int)) = true := decide_eq_true c2
        clear c2
        by_cases c3 : 0 ≤ x3_1
        · rw [if_pos c3] at H
          have c3b0 : decide (0 ≤ x3_1) = true := decide_eq_true c3
          clear c3
          replace H := Option.bind_eq_some_iff.mp H
          obtain ⟨t150, A50, H⟩ := H
          replace H : (if t150 = true then (targumref4_Digits.l0 k1 a0 (wrap64 (x3_1 + 1))) else (some false)) = some r := H
          have A5 := Aside0.mk A50
          clear A50
          by_cases c6 : t150 = true
          · subst c6
            have H1 : (targumref4_Digits.l0 k1 a0 (wrap64 (x3_1 + 1))) = some r := by rw [if_pos rfl] at H; exact H
            clear H
            have H := H1
            clear H1
            have H' := Aside0.mk H
            clear H
            have p4 : 0 ≤ (x3_1 : Int) := of_decide_eq_true (by first | (with_reducible assumption) | assumption)
            have q4 : x3_1 < (a0.size : Int) := of_decide_eq_true (by first | (with_reducible assumption) | assumption)
            have hx4 := bt_at a0 x3_1
            replace p4 := eq_true p4
            replace q4 := eq_true q4
            go_wp2_with (first | ((with_reducible refine gate_callee (f := 60) rfl ?_); refine goesL_ (some 13) rfl rfl Tryd.func60 (by kernel_rfl) rfl #[.int .u8 (bt a0 x3_1)] rfl (by (try simp only [List.map_toArray, List.map_cons, List.map_nil]); first | done | rfl | (simp only [List.length_drop, List.length_take]; rfl)) ?_; (with_reducible refine (targumref4_IsDigit.calls (bt a0 x3_1) true _ A5.out).mono ?_); rintro e w' ⟨rfl, ⟨nd, rfl⟩⟩; refine ⟨_, rfl, ?_⟩))
            go_roundg k1
            case measure => have := HK1.out; omega
            case rel => exact ⟨(wrap64 (x3_1 + 1)), (by first | rfl | (simp; done) | (simp [*]; done) | (simp [wrap64]; done)), H', ⟨by have := HK1.out; omega⟩, by repeat (first | exact Drawn0.refl _ | apply Drawn0.step)⟩
          · replace c6 := Bool.eq_false_iff.mpr c6
            subst c6
            have H1 : (some false) = some r := by rw [if_neg (show ¬ (false = true) by decide)] at H; exact H
            clear H
            have H := H1
            clear H1
            obtain rfl := Option.some.inj H
            have p4 : 0 ≤ (x3_1 : Int) := of_decide_eq_true (by first | (with_reducible assumption) | assumption)
            have q4 : x3_1 < (a0.size : Int) := of_decide_eq_true (by first | (with_reducible assumption) | assumption)
            have hx4 := bt_at a0 x3_1
            replace p4 := eq_true p4
            replace q4 := eq_true q4
            go_wp2_with (first | ((with_reducible refine gate_callee (f := 60) rfl ?_); refine goesL_ (some 13) rfl rfl Tryd.func60 (by kernel_rfl) rfl #[.int .u8 (bt a0 x3_1)] rfl (by (try simp only [List.map_toArray, List.map_cons, List.map_nil]); first | done | rfl | (simp only [List.length_drop, List.length_take]; rfl)) ?_; (with_reducible refine (targumref4_IsDigit.calls (bt a0 x3_1) false _ A5.out).mono ?_); rintro e w' ⟨rfl, ⟨nd, rfl⟩⟩; refine ⟨_, rfl, ?_⟩))
            go_ret
            exact ⟨by first | rfl | (simp; done) | (simp [*]; done) | (simp [wrap64]; done) | (simp; (generalize ByteArray.toList _ = z_); cases z_ <;> first | rfl | simp), by repeat (first | exact Drawn0.refl _ | apply Drawn0.step)⟩
        · rw [if_neg c3] at H
          exact absurd H (by simp)
      · rw [if_neg c2] at H
        have c2b0 : decide (x3_1 < (a0.size : Int)) = false := decide_eq_false c2
        clear c2
        obtain rfl := Option.some.inj H
        go_wp2
        go_ret
        exact ⟨by first | rfl | (simp; done) | (simp [*]; done) | (simp [wrap64]; done) | (simp; (generalize ByteArray.toList _ = z_); cases z_ <;> first | rfl | simp), by repeat (first | exact Drawn0.refl _ | apply Drawn0.step)⟩

/-! ### targumref4_Norm: function 15 -/
def targumref4_Norm.l0 : Nat → Bool → ByteArray → Int → Option (ByteArray)
  | 0, _, _, _ => none
  | k + 1, x0, x1, x5 => if x5 < (wrap64 ((x1.size : Int) - 1)) then (if 0 ≤ x5 then (if x5 < (x1.size : Int) then (if (bt x1 x5) = 48 then (targumref4_Norm.l0 k x0 x1 (wrap64 (x5 + 1))) else (if x5 ≤ (x1.size : Int) then (if x0 = true then (if (x1.extract (x5 : Int).toNat x1.size).toList = ([48] : List UInt8) then (some (x1.extract (x5 : Int).toNat x1.size)) else (if 1 + (x1.extract (x5 : Int).toNat x1.size).size ≤ 9223372036854775807 then (some ((⟨#[45]⟩ : ByteArray) ++ (x1.extract (x5 : Int).toNat x1.size))) else (none))) else (some (x1.extract (x5 : Int).toNat x1.size))) else (none))) else (none)) else (none)) else (if 0 ≤ x5 then (if x5 ≤ (x1.size : Int) then (if x0 = true then (if (x1.extract (x5 : Int).toNat x1.size).toList = ([48] : List UInt8) then (some (x1.extract (x5 : Int).toNat x1.size)) else (if 1 + (x1.extract (x5 : Int).toNat x1.size).size ≤ 9223372036854775807 then (some ((⟨#[45]⟩ : ByteArray) ++ (x1.extract (x5 : Int).toNat x1.size))) else (none))) else (some (x1.extract (x5 : Int).toNat x1.size))) else (none)) else (none))
def targumref4_Norm.f (k : Nat) (a0 : Bool) (a1 : ByteArray) : Option (ByteArray) := (targumref4_Digits.f k a1).bind fun t151 => (if t151 = true then (targumref4_Norm.l0 k a0 a1 0) else (some (⟨#[]⟩ : ByteArray)))
theorem targumref4_Norm.mono_l : ∀ k, (∀ y0 y1 y2, LeO (targumref4_Norm.l0 k y0 y1 y2) (targumref4_Norm.l0 (k + 1) y0 y1 y2))
  | 0 => fun _ _ _ r h => by simp [targumref4_Norm.l0] at h
  | k + 1 => by
    have ih0 := targumref4_Norm.mono_l k
    · intro y0 y1 y2
      unfold targumref4_Norm.l0
      repeat' first
      | (with_reducible exact ih0 _ _ _)
      | (with_reducible exact targumref4_Digits.mono _ _)
      | (with_reducible exact LeO.refl _)
      | (with_reducible exact LeO.none _)
      | (with_reducible refine LeO.ite ?_ ?_)
      | (with_reducible refine LeO.bind ?_ (fun _ => ?_))
      | exact ih0 _ _ _
      | exact targumref4_Digits.mono _ _
      | exact LeO.none _
      | refine LeO.ite ?_ ?_
      | refine LeO.bind ?_ (fun _ => ?_)
theorem targumref4_Norm.mono : ∀ a0 a1 k, LeO (targumref4_Norm.f k a0 a1) (targumref4_Norm.f (k + 1) a0 a1) := by
  intro a0 a1 k
  have ih0 := targumref4_Norm.mono_l k
  unfold targumref4_Norm.f
  repeat' first
      | (with_reducible exact ih0 _ _ _)
      | (with_reducible exact targumref4_Digits.mono _ _)
      | (with_reducible exact LeO.refl _)
      | (with_reducible exact LeO.none _)
      | (with_reducible refine LeO.ite ?_ ?_)
      | (with_reducible refine LeO.bind ?_ (fun _ => ?_))
      | exact ih0 _ _ _
      | exact targumref4_Digits.mono _ _
      | exact LeO.none _
      | refine LeO.ite ?_ ?_
      | refine LeO.bind ?_ (fun _ => ?_)
set_option maxHeartbeats 40000000 in
set_option maxRecDepth 100000 in
theorem targumref4_Norm.calls (k : Nat) (a0 : Bool) (a1 : ByteArray) (r : ByteArray) (w : World) (h : targumref4_Norm.f k a0 a1 = some r) :
    Calls Tryd.prog 15 #[.bool a0, .string a1] w fun e w' => e = .returned (.string r) ∧ Drawn0 w w' := by
  have H : ((targumref4_Digits.f k a1).bind fun t151 => (if t151 = true then (targumref4_Norm.l0 k a0 a1 0) else (some (⟨#[]⟩ : ByteArray)))) = some r := h
  clear h
  replace H := Option.bind_eq_some_iff.mp H
  obtain ⟨t151, A30, H⟩ := H
  replace H : (if t151 = true then (targumref4_Norm.l0 k a0 a1 0) else (some (⟨#[]⟩ : ByteArray))) = some r := H
  have A3 := Aside0.mk A30
  clear A30
  by_cases c4 : t151 = true
  · subst c4
    have H1 : (targumref4_Norm.l0 k a0 a1 0) = some r := by rw [if_pos rfl] at H; exact H
    clear H
    have H := H1
    clear H1
    have H' := Aside0.mk H
    clear H
    go_enter Tryd.func15, Tryd.ntmps15
    go_wp2_with (first | ((with_reducible refine gate_callee (f := 38) rfl ?_); refine goesL_ (some 8) rfl rfl Tryd.func38 (by kernel_rfl) rfl #[.string a1] rfl (by (try simp only [List.map_toArray, List.map_cons, List.map_nil]); first | done | rfl | (simp only [List.length_drop, List.length_take]; rfl)) ?_; (with_reducible refine (targumref4_Digits.calls k a1 true _ A3.out).mono ?_); rintro e w' ⟨rfl, ⟨nd, rfl⟩⟩; refine ⟨_, rfl, ?_⟩))
    go_loopg [5] k (fun kq v5 w' => ∃ (x5_1 : Int), v5 = .int .i64 x5_1 ∧ Aside0 (targumref4_Norm.l0 kq a0 a1 x5_1 = some r) ∧ Aside0 (kq ≤ k) ∧ Drawn0 w w')
    case atStart => exact ⟨(0), (by first | rfl | (simp; done) | (simp [*]; done) | (simp [wrap64]; done)), H', ⟨Nat.le_refl _⟩, by repeat (first | exact Drawn0.refl _ | apply Drawn0.step)⟩
    case round =>
      clear H'
      try clear c1
      try clear p2
      try clear c3
      try clear c4
      obtain ⟨x5_1, rfl, HA, HK1, ⟨m1, rfl⟩⟩ := hrel
      cases gk with
      | zero => exact absurd HA.out (by simp [targumref4_Norm.l0])
      | succ k1 =>
        have H := HA.out
        clear HA
        simp only [targumref4_Norm.l0] at H
        by_cases c5 : x5_1 < (wrap64 ((a1.size : Int) - 1))
        · rw [if_pos c5] at H
          have c5b0 : decide (x5_1 < (wrap64 ((a1.size : Int) - 1))) = true := decide_eq_true c5
          clear c5
          by_cases c6 : 0 ≤ x5_1
          · rw [if_pos c6] at H
            have c6b0 : decide (0 ≤ x5_1) = true := decide_eq_true c6
            clear c6
            by_cases c7 : x5_1 < (a1.size : Int)
            · rw [if_pos c7] at H
              have c7b0 : decide (x5_1 < (a1.size : Int)) = true := decide_eq_true c7
              clear c7
              by_cases c9 : (bt a1 x5_1) = 48
              · rw [if_pos c9] at H
                have c9b0 : ((bt a1 x5_1) == 48) = true := beq_iff_eq.mpr c9
                have c9b1 : ((bt a1 x5_1) != 48) = false := bne_eq_false_iff_eq.mpr c9
                clear c9
                have H' := Aside0.mk H
                clear H
                have p8 : 0 ≤ (x5_1 : Int) := of_decide_eq_true (by first | (with_reducible assumption) | assumption)
                have q8 : x5_1 < (a1.size : Int) := of_decide_eq_true (by first | (with_reducible assumption) | assumption)
                have hx8 := bt_at a1 x5_1
                replace p8 := eq_true p8
                replace q8 := eq_true q8
                go_wp2
                go_roundg k1
                case measure => have := HK1.out; omega
                case rel => exact ⟨(wrap64 (x5_1 + 1)), (by first | rfl | (simp; done) | (simp [*]; done) | (simp [wrap64]; done)), H', ⟨by have := HK1.out; omega⟩, by repeat (first | exact Drawn0.refl _ | apply Drawn0.step)⟩
              · rw [if_neg c9] at H
                have c9b0 : ((bt a1 x5_1) == 48) = false := beq_eq_false_iff_ne.mpr c9
                have c9b1 : ((bt a1 x5_1) != 48) = true := bne_iff_ne.mpr c9
                have c10b0 := eq_true (of_decide_eq_true (by first | (with_reducible assumption) | assumption) : 0 ≤ x5_1)
                by_cases c11 : x5_1 ≤ (a1.size : Int)
                · rw [if_pos c11] at H
                  have c11b0 := eq_true c11
                  have c11b1 : decide (x5_1 ≤ (a1.size : Int)) = true := decide_eq_true c11
                  clear c11
                  by_cases c12 : a0 = true
                  · subst c12
                    have H1 : (if (a1.extract (x5_1 : Int).toNat a1.size).toList = ([48] : List UInt8) then (some (a1.extract (x5_1 : Int).toNat a1.size)) else (if 1 + (a1.extract (x5_1 : Int).toNat a1.size).size ≤ 9223372036854775807 then (some ((⟨#[45]⟩ : ByteArray) ++ (a1.extract (x5_1 : Int).toNat a1.size))) else (none))) = some r := by rw [if_pos rfl] at H; exact H
                    clear H
                    have H := H1
                    clear H1
                    by_cases c13 : (a1.extract (x5_1 : Int).toNat a1.size).toList = ([48] : List UInt8)
                    · rw [if_pos c13] at H
                      have c13b0 : ((a1.extract (x5_1 : Int).toNat a1.size).toList == ([48] : List UInt8)) = true := beq_iff_eq.mpr c13
                      have c13b1 : ((a1.extract (x5_1 : Int).toNat a1.size).toList != ([48] : List UInt8)) = false := bne_eq_false_iff_eq.mpr c13
                      clear c13
                      obtain rfl := Option.some.inj H
                      have p8 : 0 ≤ (x5_1 : Int) := of_decide_eq_true (by first | (with_reducible assumption) | assumption)
                      have q8 : x5_1 < (a1.size : Int) := of_decide_eq_true (by first | (with_reducible assumption) | assumption)
                      have hx8 := bt_at a1 x5_1
                      replace p8 := eq_true p8
                      replace q8 := eq_true q8
                      go_wp2
                      go_ret
                      exact ⟨by first | rfl | (simp; done) | (simp [*]; done) | (simp [wrap64]; done) | (simp; (generalize ByteArray.toList _ = z_); cases z_ <;> first | rfl | simp), by repeat (first | exact Drawn0.refl _ | apply Drawn0.step)⟩
                    · rw [if_neg c13] at H
                      have c13b0 : ((a1.extract (x5_1 : Int).toNat a1.size).toList == ([48] : List UInt8)) = false := beq_eq_false_iff_ne.mpr c13
                      have c13b1 : ((a1.extract (x5_1 : Int).toNat a1.size).toList != ([48] : List UInt8)) = true := bne_iff_ne.mpr c13
                      by_cases c14 : 1 + (a1.extract (x5_1 : Int).toNat a1.size).size ≤ 9223372036854775807
                      · rw [if_pos c14] at H
                        have c14b0 := eq_true c14
                        have c14b1 : decide (1 + (a1.extract (x5_1 : Int).toNat a1.size).size ≤ 9223372036854775807) = true := decide_eq_true c14
                        try have c14b2 : (9223372036854775807 < 1 + (a1.extract (x5_1 : Int).toNat a1.size).size) = False := eq_false (Nat.not_lt.2 c14)
                        try have c14b3 : (9223372036854775807 < 1 + (a1.size - (x5_1 : Int).toNat)) = False := eq_false (Nat.not_lt.2 (by have z_ := c14; simp only [ByteArray.size_append, ByteArray.size_extract, Nat.min_self] at z_; exact z_))
                        obtain rfl := Option.some.inj H
                        have p8 : 0 ≤ (x5_1 : Int) := of_decide_eq_true (by first | (with_reducible assumption) | assumption)
                        have q8 : x5_1 < (a1.size : Int) := of_decide_eq_true (by first | (with_reducible assumption) | assumption)
                        have hx8 := bt_at a1 x5_1
                        replace p8 := eq_true p8
                        replace q8 := eq_true q8
                        go_wp2
                        go_ret
                        exact ⟨by first | rfl | (simp; done) | (simp [*]; done) | (simp [wrap64]; done) | (simp; (generalize ByteArray.toList _ = z_); cases z_ <;> first | rfl | simp), by repeat (first | exact Drawn0.refl _ | apply Drawn0.step)⟩
                      · rw [if_neg c14] at H
                        exact absurd H (by simp)
                  · replace c12 := Bool.eq_false_iff.mpr c12
                    subst c12
                    have H1 : (some (a1.extract (x5_1 : Int).toNat a1.size)) = some r := by rw [if_neg (show ¬ (false = true) by decide)] at H; exact H
                    clear H
                    have H := H1
                    clear H1
                    obtain rfl := Option.some.inj H
                    have p8 : 0 ≤ (x5_1 : Int) := of_decide_eq_true (by first | (with_reducible assumption) | assumption)
                    have q8 : x5_1 < (a1.size : Int) := of_decide_eq_true (by first | (with_reducible assumption) | assumption)
                    have hx8 := bt_at a1 x5_1
                    replace p8 := eq_true p8
                    replace q8 := eq_true q8
                    go_wp2
                    go_ret
                    exact ⟨by first | rfl | (simp; done) | (simp [*]; done) | (simp [wrap64]; done) | (simp; (generalize ByteArray.toList _ = z_); cases z_ <;> first | rfl | simp), by repeat (first | exact Drawn0.refl _ | apply Drawn0.step)⟩
                · rw [if_neg c11] at H
                  exact absurd H (by simp)
            · rw [if_neg c7] at H
              exact absurd H (by simp)
          · rw [if_neg c6] at H
            exact absurd H (by simp)
        · rw [if_neg c5] at H
          have c5b0 : decide (x5_1 < (wrap64 ((a1.size : Int) - 1))) = false := decide_eq_false c5
          clear c5
          by_cases c15 : 0 ≤ x5_1
          · rw [if_pos c15] at H
            have c15b0 := eq_true c15
            have c15b1 : decide (0 ≤ x5_1) = true := decide_eq_true c15
            clear c15
            by_cases c16 : x5_1 ≤ (a1.size : Int)
            · rw [if_pos c16] at H
              have c16b0 := eq_true c16
              have c16b1 : decide (x5_1 ≤ (a1.size : Int)) = true := decide_eq_true c16
              clear c16
              by_cases c17 : a0 = true
              · subst c17
                have H1 : (if (a1.extract (x5_1 : Int).toNat a1.size).toList = ([48] : List UInt8) then (some (a1.extract (x5_1 : Int).toNat a1.size)) else (if 1 + (a1.extract (x5_1 : Int).toNat a1.size).size ≤ 9223372036854775807 then (some ((⟨#[45]⟩ : ByteArray) ++ (a1.extract (x5_1 : Int).toNat a1.size))) else (none))) = some r := by rw [if_pos rfl] at H; exact H
                clear H
                have H := H1
                clear H1
                by_cases c18 : (a1.extract (x5_1 : Int).toNat a1.size).toList = ([48] : List UInt8)
                · rw [if_pos c18] at H
                  have c18b0 : ((a1.extract (x5_1 : Int).toNat a1.size).toList == ([48] : List UInt8)) = true := beq_iff_eq.mpr c18
                  have c18b1 : ((a1.extract (x5_1 : Int).toNat a1.size).toList != ([48] : List UInt8)) = false := bne_eq_false_iff_eq.mpr c18
                  clear c18
                  obtain rfl := Option.some.inj H
                  go_wp2
                  go_ret
                  exact ⟨by first | rfl | (simp; done) | (simp [*]; done) | (simp [wrap64]; done) | (simp; (generalize ByteArray.toList _ = z_); cases z_ <;> first | rfl | simp), by repeat (first | exact Drawn0.refl _ | apply Drawn0.step)⟩
                · rw [if_neg c18] at H
                  have c18b0 : ((a1.extract (x5_1 : Int).toNat a1.size).toList == ([48] : List UInt8)) = false := beq_eq_false_iff_ne.mpr c18
                  have c18b1 : ((a1.extract (x5_1 : Int).toNat a1.size).toList != ([48] : List UInt8)) = true := bne_iff_ne.mpr c18
                  by_cases c19 : 1 + (a1.extract (x5_1 : Int).toNat a1.size).size ≤ 9223372036854775807
                  · rw [if_pos c19] at H
                    have c19b0 := eq_true c19
                    have c19b1 : decide (1 + (a1.extract (x5_1 : Int).toNat a1.size).size ≤ 9223372036854775807) = true := decide_eq_true c19
                    try have c19b2 : (9223372036854775807 < 1 + (a1.extract (x5_1 : Int).toNat a1.size).size) = False := eq_false (Nat.not_lt.2 c19)
                    try have c19b3 : (9223372036854775807 < 1 + (a1.size - (x5_1 : Int).toNat)) = False := eq_false (Nat.not_lt.2 (by have z_ := c19; simp only [ByteArray.size_append, ByteArray.size_extract, Nat.min_self] at z_; exact z_))
                    obtain rfl := Option.some.inj H
                    go_wp2
                    go_ret
                    exact ⟨by first | rfl | (simp; done) | (simp [*]; done) | (simp [wrap64]; done) | (simp; (generalize ByteArray.toList _ = z_); cases z_ <;> first | rfl | simp), by repeat (first | exact Drawn0.refl _ | apply Drawn0.step)⟩
                  · rw [if_neg c19] at H
                    exact absurd H (by simp)
              · replace c17 := Bool.eq_false_iff.mpr c17
                subst c17
                have H1 : (some (a1.extract (x5_1 : Int).toNat a1.size)) = some r := by rw [if_neg (show ¬ (false = true) by decide)] at H; exact H
                clear H
                have H := H1
                clear H1
                obtain rfl := Option.some.inj H
                go_wp2
                go_ret
                exact ⟨by first | rfl | (simp; done) | (simp [*]; done) | (simp [wrap64]; done) | (simp; (generalize ByteArray.toList _ = z_); cases z_ <;> first | rfl | simp), by repeat (first | exact Drawn0.refl _ | apply Drawn0.step)⟩
            · rw [if_neg c16] at H
              exact absurd H (by simp)
          · rw [if_neg c15] at H
            exact absurd H (by simp)
  · replace c4 := Bool.eq_false_iff.mpr c4
    subst c4
    have H1 : (some (⟨#[]⟩ : ByteArray)) = some r := by rw [if_neg (show ¬ (false = true) by decide)] at H; exact H
    clear H
    have H := H1
    clear H1
    obtain rfl := Option.some.inj H
    go_enter Tryd.func15, Tryd.ntmps15
    go_wp2_with (first | ((with_reducible refine gate_callee (f := 38) rfl ?_); refine goesL_ (some 8) rfl rfl Tryd.func38 (by kernel_rfl) rfl #[.string a1] rfl (by (try simp only [List.map_toArray, List.map_cons, List.map_nil]); first | done | rfl | (simp only [List.length_drop, List.length_take]; rfl)) ?_; (with_reducible refine (targumref4_Digits.calls k a1 false _ A3.out).mono ?_); rintro e w' ⟨rfl, ⟨nd, rfl⟩⟩; refine ⟨_, rfl, ?_⟩))
    go_ret
    exact ⟨by first | rfl | (simp; done) | (simp [*]; done) | (simp [wrap64]; done) | (simp; (generalize ByteArray.toList _ = z_); cases z_ <;> first | rfl | simp), by repeat (first | exact Drawn0.refl _ | apply Drawn0.step)⟩

end Go.Proofs.YtddaggnomcoejaaDoor.PR
