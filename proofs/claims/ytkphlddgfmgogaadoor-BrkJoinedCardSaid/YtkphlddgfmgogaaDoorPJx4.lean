/- Written by this session's own program (xprint, made over the kit's print): Lean functions with the same answers as the Go functions, and the proofs of that. Not trusted: Lean checks it. -/
import Derived.Test.YtkphlddgfmgogaaDoorPJx0
import Derived.Test.YtkphlddgfmgogaaDoorPJx1
import Derived.Test.YtkphlddgfmgogaaDoorPJx2
import Derived.Test.YtkphlddgfmgogaaDoorPJx3
namespace Go.Proofs.YtkphlddgfmgogaaDoor.PJ
open Go.RowKit Go.Proofs.YtkphlddgfmgogaaDoorW.PrintWords Go.Proofs.YtkphlddgfmgogaaDoorW.PrintLast Go.Proofs.YtkphlddgfmgogaaDoorW.PrintMore
attribute [local go_sem] max2_int min2_int max_two min_two max_three min_three max_four min_four   -- for this text's walks alone
set_option linter.unusedVariables false
set_option linter.unusedSimpArgs false

attribute [local go_sem high] eqA27
/-! ### targumlaw2_known: function 9 -/
def targumlaw2_known.j0 : Nat → List (S27) → List (S27) → Bool → Option (Bool)
  | 0, _, _, _ => none
  | k + 1, x1, x2, x12 => if x12 = true then (some false) else ((brk_Break.f k 11 (⟨#[97, 194, 133]⟩ : ByteArray) 1).bind fun t130 => (if t130 = 2 then ((brk_Break.f k 12 (⟨#[97, 194, 133]⟩ : ByteArray) 1).bind fun t131 => (if t131 = 0 then (if 0 < (x1.length : Int) then (if (((rd_T27 x1 0).f0) == 0 && (((rd_T27 x1 0).f1) == 1 && (((rd_T27 x1 0).f2) == 2))) = true then (if 1 < (x1.length : Int) then (if (((rd_T27 x1 1).f0) == 2 && (((rd_T27 x1 1).f1) == 3 && (((rd_T27 x1 1).f2) == 3))) = true then (if 1 < (x2.length : Int) then (if (((rd_T27 x2 1).f0) == 7 && (((rd_T27 x2 1).f1) == 7 && (((rd_T27 x2 1).f2) == 10))) = true then (if 0 < (x2.length : Int) then ((brk_Marker.f k (⟨#[45, 45, 45, 32, 97, 13, 10, 226, 128, 168]⟩ : ByteArray) ((rd_T27 x2 0).f0) ((rd_T27 x2 0).f1) ((rd_T27 x2 0).f2)).bind fun t136 => (if t136 = 1 then ((brk_Check.f k (⟨#[97, 0]⟩ : ByteArray)).bind fun t137 => (if t137 = 1 then ((brk_May.f k (⟨#[239, 187, 191]⟩ : ByteArray) 0).bind fun t138 => (some (t138 == 0))) else (some false))) else (some false))) else (none)) else (some false)) else (none)) else (some false)) else (none)) else (some false)) else (none)) else (some false))) else (some false)))
def targumlaw2_known.f (k : Nat)  : Option (Bool) := (brk_Lines.f k 12 (⟨#[97, 10, 98]⟩ : ByteArray)).bind fun t124 => ((brk_Lines.f k 11 (⟨#[45, 45, 45, 32, 97, 13, 10, 226, 128, 168]⟩ : ByteArray)).bind fun t127 => (if (t124.length : Int) = 2 then (targumlaw2_known.j0 k t124 t127 ((t127.length : Int) != 2)) else (targumlaw2_known.j0 k t124 t127 true)))
theorem targumlaw2_known.mono_l : ∀ k, (∀ y0 y1 y2, LeO (targumlaw2_known.j0 k y0 y1 y2) (targumlaw2_known.j0 (k + 1) y0 y1 y2))
  | 0 => fun _ _ _ r h => by simp [targumlaw2_known.j0] at h
  | k + 1 => by
    have ih0 := targumlaw2_known.mono_l k
    · intro y0 y1 y2
      unfold targumlaw2_known.j0
      repeat' first
      | (with_reducible exact ih0 _ _ _)
      | (with_reducible exact brk_Break.mono _ _ _ _)
      | (with_reducible exact brk_Check.mono _ _)
      | (with_reducible exact brk_Lines.mono _ _ _)
      | (with_reducible exact brk_Marker.mono _ _ _ _ _)
      | (with_reducible exact brk_May.mono _ _ _)
      | (with_reducible exact LeO.refl _)
      | (with_reducible exact LeO.none _)
      | (with_reducible refine LeO.ite ?_ ?_)
      | (with_reducible refine LeO.bind ?_ (fun _ => ?_))
      | exact ih0 _ _ _
      | exact brk_Break.mono _ _ _ _
      | exact brk_Check.mono _ _
      | exact brk_Lines.mono _ _ _
      | exact brk_Marker.mono _ _ _ _ _
      | exact brk_May.mono _ _ _
      | exact LeO.none _
      | refine LeO.ite ?_ ?_
      | refine LeO.bind ?_ (fun _ => ?_)
theorem targumlaw2_known.mono : ∀ k, LeO (targumlaw2_known.f k ) (targumlaw2_known.f (k + 1) ) := by
  intro  k
  have ih0 := targumlaw2_known.mono_l k
  unfold targumlaw2_known.f
  repeat' first
      | (with_reducible exact ih0 _ _ _)
      | (with_reducible exact brk_Break.mono _ _ _ _)
      | (with_reducible exact brk_Check.mono _ _)
      | (with_reducible exact brk_Lines.mono _ _ _)
      | (with_reducible exact brk_Marker.mono _ _ _ _ _)
      | (with_reducible exact brk_May.mono _ _ _)
      | (with_reducible exact LeO.refl _)
      | (with_reducible exact LeO.none _)
      | (with_reducible refine LeO.ite ?_ ?_)
      | (with_reducible refine LeO.bind ?_ (fun _ => ?_))
      | exact ih0 _ _ _
      | exact brk_Break.mono _ _ _ _
      | exact brk_Check.mono _ _
      | exact brk_Lines.mono _ _ _
      | exact brk_Marker.mono _ _ _ _ _
      | exact brk_May.mono _ _ _
      | exact LeO.none _
      | refine LeO.ite ?_ ?_
      | refine LeO.bind ?_ (fun _ => ?_)
set_option maxHeartbeats 8000000 in
set_option maxRecDepth 100000 in
theorem targumlaw2_known.calls (k : Nat)  (r : Bool) (w : World) (hG : Lib.Utf8Tabs 0 1 w) (h : targumlaw2_known.f k  = some r) :
    Calls Tryd.prog 9 #[] w fun e w' => e = .returned (.bool r) ∧ Below w.heap.size w w' := by
  have hu27 := Tryd.underlying27
  have HG := Aside0.mk hG
  clear hG
  have HB := Aside0.mk (Below.refl w.heap.size w)
  have H : ((brk_Lines.f k 12 (⟨#[97, 10, 98]⟩ : ByteArray)).bind fun t124 => ((brk_Lines.f k 11 (⟨#[45, 45, 45, 32, 97, 13, 10, 226, 128, 168]⟩ : ByteArray)).bind fun t127 => (if (t124.length : Int) = 2 then (targumlaw2_known.j0 k t124 t127 ((t127.length : Int) != 2)) else (targumlaw2_known.j0 k t124 t127 true)))) = some r := h
  clear h
  replace H := Option.bind_eq_some_iff.mp H
  obtain ⟨t124, A10, H⟩ := H
  replace H : ((brk_Lines.f k 11 (⟨#[45, 45, 45, 32, 97, 13, 10, 226, 128, 168]⟩ : ByteArray)).bind fun t127 => (if (t124.length : Int) = 2 then (targumlaw2_known.j0 k t124 t127 ((t127.length : Int) != 2)) else (targumlaw2_known.j0 k t124 t127 true))) = some r := H
  have A1 := Aside0.mk A10
  clear A10
  replace H := Option.bind_eq_some_iff.mp H
  obtain ⟨t127, A20, H⟩ := H
  replace H : (if (t124.length : Int) = 2 then (targumlaw2_known.j0 k t124 t127 ((t127.length : Int) != 2)) else (targumlaw2_known.j0 k t124 t127 true)) = some r := H
  have A2 := Aside0.mk A20
  clear A20
  have HC3 := Aside0.mk H
  clear H
  go_enter Tryd.func9, Tryd.ntmps9
  go_upto_region 3 with (first | ((with_reducible refine gate_callee (f := 11) rfl ?_); refine goesL_ (some 3) rfl rfl Tryd.func11 (by kernel_rfl) rfl #[.int .i64 12, .string (⟨#[97, 10, 98]⟩ : ByteArray)] rfl (by (try simp only [List.map_toArray, List.map_cons, List.map_nil]); first | done | rfl | (simp only [List.length_drop, List.length_take]; rfl)) ?_; (with_reducible refine (brk_Lines.calls k 12 (⟨#[97, 10, 98]⟩ : ByteArray) t124 _ A1.out).mono ?_); rintro e w4 ⟨v125, rfl, ho0, hb⟩; refine ⟨_, rfl, ?_⟩; have n0_ := Aside0.mk (Kd.R_lower ho0 (below_size (by repeat (first | (with_reducible first | exact HB.out | apply below_alloc | apply pw_below_drewN | apply below_drew1) | exact HB.out)))); have n1_ := Aside0.mk (below_step (by repeat (first | (with_reducible first | exact HB.out | apply below_alloc | apply pw_below_drewN | apply below_drew1) | exact HB.out)) hb); clear HB; have HO126 := n0_; have HB := n1_; clear n0_ n1_; (try clear hb); (try clear hb2); (try clear hk); (try clear hi); (try clear ho0)) | ((with_reducible refine gate_callee (f := 11) rfl ?_); refine goesL_ (some 4) rfl rfl Tryd.func11 (by kernel_rfl) rfl #[.int .i64 11, .string (⟨#[45, 45, 45, 32, 97, 13, 10, 226, 128, 168]⟩ : ByteArray)] rfl (by (try simp only [List.map_toArray, List.map_cons, List.map_nil]); first | done | rfl | (simp only [List.length_drop, List.length_take]; rfl)) ?_; (with_reducible refine (brk_Lines.calls k 11 (⟨#[45, 45, 45, 32, 97, 13, 10, 226, 128, 168]⟩ : ByteArray) t127 _ A2.out).mono ?_); rintro e w5 ⟨v128, rfl, ho0, hb⟩; refine ⟨_, rfl, ?_⟩; have n0_ := Aside0.mk (Kd.R_elder' (by (with_reducible repeat (first | apply Kd.R_alloc | apply Kd.R_drewN | apply Kd.R_drew)); exact HO126.out) (Kd.R_base ho0) hb); have n1_ := Aside0.mk (Kd.R_lower (Kd.R_new' ho0 (Kd.R_lt (by (with_reducible repeat (first | apply Kd.R_alloc | apply Kd.R_drewN | apply Kd.R_drew)); exact HO126.out))) (below_size (by repeat (first | (with_reducible first | exact HB.out | apply below_alloc | apply pw_below_drewN | apply below_drew1) | exact HB.out)))); have n2_ := Aside0.mk (below_step (by repeat (first | (with_reducible first | exact HB.out | apply below_alloc | apply pw_below_drewN | apply below_drew1) | exact HB.out)) hb); clear HO126; clear HB; have HO126 := n0_; have HO129 := n1_; have HB := n2_; clear n0_ n1_ n2_; (try clear hb); (try clear hb2); (try clear hk); (try clear hi); (try clear ho0)))
  (try simp only [Act.put, List.setIfInBounds_toArray, List.set_cons_zero, List.set_cons_succ])
  go_cut [12] (fun v12 wc => ∃ (kq : Nat) (x12_2 : Bool), v12 = .bool x12_2 ∧ Aside0 (targumlaw2_known.j0 kq t124 t127 x12_2 = some r) ∧ Aside0 (kq ≤ k) ∧ Aside0 (Kd.R k27 27 wc w.heap.size (fun k_ => some k_ ≠ (v128 : Value).ownBlock) v125 t124) ∧ Aside0 (Kd.R k27 27 wc w.heap.size (fun k_ => some k_ ≠ (v125 : Value).ownBlock) v128 t127) ∧ Aside0 (Below w.heap.size w wc))
  case first =>
    have H := HC3.out
    clear HC3
    by_cases c6 : (t124.length : Int) = 2
    · rw [if_pos c6] at H
      have c6b0 : ((t124.length : Int) == 2) = true := beq_iff_eq.mpr c6
      have c6b1 : ((t124.length : Int) != 2) = false := bne_eq_false_iff_eq.mpr c6
      clear c6
      (first | rw [c6b0] | (simp only [i64_w, i32_w]; rw [c6b0]) | skip)
      have H' := Aside0.mk H
      clear H
      obtain ⟨Ao7, co7, eo7⟩ := Kd.R_slice HO126.out
      subst eo7
      obtain ⟨Ao8, co8, eo8⟩ := Kd.R_slice HO129.out
      subst eo8
      go_wp2
      go_meet
      case rel => exact ⟨_, (((t127.length : Int) != 2)), (by first | rfl | (simp; done) | (simp [*]; done) | (simp [wrap64]; done)), H', ⟨by first | omega | exact Nat.le_refl _⟩, ⟨by (with_reducible repeat (first | apply Kd.R_alloc | apply Kd.R_drewN | apply Kd.R_drew)); exact Kd.R_mono HO126.out (fun _ hk => hk.2)⟩, ⟨by (with_reducible repeat (first | apply Kd.R_alloc | apply Kd.R_drewN | apply Kd.R_drew)); exact Kd.R_mono HO129.out (fun _ hk => hk.2)⟩, ⟨by repeat (first | (with_reducible first | exact HB.out | apply below_alloc | apply pw_below_drewN | apply below_drew1) | exact HB.out)⟩⟩
    · rw [if_neg c6] at H
      have c6b0 : ((t124.length : Int) == 2) = false := beq_eq_false_iff_ne.mpr c6
      have c6b1 : ((t124.length : Int) != 2) = true := bne_iff_ne.mpr c6
      (first | rw [c6b0] | (simp only [i64_w, i32_w]; rw [c6b0]) | skip)
      have H' := Aside0.mk H
      clear H
      obtain ⟨Ao9, co9, eo9⟩ := Kd.R_slice HO126.out
      subst eo9
      go_wp2
      go_meet
      case rel => exact ⟨_, (true), (by first | rfl | (simp; done) | (simp [*]; done) | (simp [wrap64]; done)), H', ⟨by first | omega | exact Nat.le_refl _⟩, ⟨by (with_reducible repeat (first | apply Kd.R_alloc | apply Kd.R_drewN | apply Kd.R_drew)); exact Kd.R_mono HO126.out (fun _ hk => hk.2)⟩, ⟨by (with_reducible repeat (first | apply Kd.R_alloc | apply Kd.R_drewN | apply Kd.R_drew)); exact Kd.R_mono HO129.out (fun _ hk => hk.2)⟩, ⟨by repeat (first | (with_reducible first | exact HB.out | apply below_alloc | apply pw_below_drewN | apply below_drew1) | exact HB.out)⟩⟩
  case rest =>
    clear HC3
    try clear c1
    try clear p2
    try clear c6
    try clear c6b0
    try clear c6b1
    try clear c9
    obtain ⟨kq, x12_2, rfl, HA, HJ2, HO_1, HO_2, HB⟩ := hcut
    cases kq with
    | zero => exact absurd HA.out (by simp [targumlaw2_known.j0])
    | succ kj2 =>
      have H := HA.out
      clear HA
      simp only [targumlaw2_known.j0] at H
      by_cases c10 : x12_2 = true
      · subst c10
        have H1 : (some false) = some r := by rw [if_pos rfl] at H; exact H
        clear H
        have H := H1
        clear H1
        obtain rfl := Option.some.inj H
        go_wp2
        go_ret
        exact ⟨by first | rfl | (simp [errW_none, errW_some] <;> rfl) | (simp [*, errW_none, errW_some] <;> rfl), by repeat (first | (with_reducible first | exact HB.out | apply below_alloc | apply pw_below_drewN | apply below_drew1) | exact HB.out)⟩
      · replace c10 := Bool.eq_false_iff.mpr c10
        subst c10
        have H1 : ((brk_Break.f kj2 11 (⟨#[97, 194, 133]⟩ : ByteArray) 1).bind fun t130 => (if t130 = 2 then ((brk_Break.f kj2 12 (⟨#[97, 194, 133]⟩ : ByteArray) 1).bind fun t131 => (if t131 = 0 then (if 0 < (t124.length : Int) then (if (((rd_T27 t124 0).f0) == 0 && (((rd_T27 t124 0).f1) == 1 && (((rd_T27 t124 0).f2) == 2))) = true then (if 1 < (t124.length : Int) then (if (((rd_T27 t124 1).f0) == 2 && (((rd_T27 t124 1).f1) == 3 && (((rd_T27 t124 1).f2) == 3))) = true then (if 1 < (t127.length : Int) then (if (((rd_T27 t127 1).f0) == 7 && (((rd_T27 t127 1).f1) == 7 && (((rd_T27 t127 1).f2) == 10))) = true then (if 0 < (t127.length : Int) then ((brk_Marker.f kj2 (⟨#[45, 45, 45, 32, 97, 13, 10, 226, 128, 168]⟩ : ByteArray) ((rd_T27 t127 0).f0) ((rd_T27 t127 0).f1) ((rd_T27 t127 0).f2)).bind fun t136 => (if t136 = 1 then ((brk_Check.f kj2 (⟨#[97, 0]⟩ : ByteArray)).bind fun t137 => (if t137 = 1 then ((brk_May.f kj2 (⟨#[239, 187, 191]⟩ : ByteArray) 0).bind fun t138 => (some (t138 == 0))) else (some false))) else (some false))) else (none)) else (some false)) else (none)) else (some false)) else (none)) else (some false)) else (none)) else (some false))) else (some false))) = some r := by rw [if_neg (show ¬ (false = true) by decide)] at H; exact H
        clear H
        have H := H1
        clear H1
        replace H := Option.bind_eq_some_iff.mp H
        obtain ⟨t130, A110, H⟩ := H
        replace H : (if t130 = 2 then ((brk_Break.f kj2 12 (⟨#[97, 194, 133]⟩ : ByteArray) 1).bind fun t131 => (if t131 = 0 then (if 0 < (t124.length : Int) then (if (((rd_T27 t124 0).f0) == 0 && (((rd_T27 t124 0).f1) == 1 && (((rd_T27 t124 0).f2) == 2))) = true then (if 1 < (t124.length : Int) then (if (((rd_T27 t124 1).f0) == 2 && (((rd_T27 t124 1).f1) == 3 && (((rd_T27 t124 1).f2) == 3))) = true then (if 1 < (t127.length : Int) then (if (((rd_T27 t127 1).f0) == 7 && (((rd_T27 t127 1).f1) == 7 && (((rd_T27 t127 1).f2) == 10))) = true then (if 0 < (t127.length : Int) then ((brk_Marker.f kj2 (⟨#[45, 45, 45, 32, 97, 13, 10, 226, 128, 168]⟩ : ByteArray) ((rd_T27 t127 0).f0) ((rd_T27 t127 0).f1) ((rd_T27 t127 0).f2)).bind fun t136 => (if t136 = 1 then ((brk_Check.f kj2 (⟨#[97, 0]⟩ : ByteArray)).bind fun t137 => (if t137 = 1 then ((brk_May.f kj2 (⟨#[239, 187, 191]⟩ : ByteArray) 0).bind fun t138 => (some (t138 == 0))) else (some false))) else (some false))) else (none)) else (some false)) else (none)) else (some false)) else (none)) else (some false)) else (none)) else (some false))) else (some false)) = some r := H
        have A11 := Aside0.mk A110
        clear A110
        by_cases c12 : t130 = 2
        · rw [if_pos c12] at H
          have c12b0 : (t130 == 2) = true := beq_iff_eq.mpr c12
          have c12b1 : (t130 != 2) = false := bne_eq_false_iff_eq.mpr c12
          clear c12
          replace H := Option.bind_eq_some_iff.mp H
          obtain ⟨t131, A130, H⟩ := H
          replace H : (if t131 = 0 then (if 0 < (t124.length : Int) then (if (((rd_T27 t124 0).f0) == 0 && (((rd_T27 t124 0).f1) == 1 && (((rd_T27 t124 0).f2) == 2))) = true then (if 1 < (t124.length : Int) then (if (((rd_T27 t124 1).f0) == 2 && (((rd_T27 t124 1).f1) == 3 && (((rd_T27 t124 1).f2) == 3))) = true then (if 1 < (t127.length : Int) then (if (((rd_T27 t127 1).f0) == 7 && (((rd_T27 t127 1).f1) == 7 && (((rd_T27 t127 1).f2) == 10))) = true then (if 0 < (t127.length : Int) then ((brk_Marker.f kj2 (⟨#[45, 45, 45, 32, 97, 13, 10, 226, 128, 168]⟩ : ByteArray) ((rd_T27 t127 0).f0) ((rd_T27 t127 0).f1) ((rd_T27 t127 0).f2)).bind fun t136 => (if t136 = 1 then ((brk_Check.f kj2 (⟨#[97, 0]⟩ : ByteArray)).bind fun t137 => (if t137 = 1 then ((brk_May.f kj2 (⟨#[239, 187, 191]⟩ : ByteArray) 0).bind fun t138 => (some (t138 == 0))) else (some false))) else (some false))) else (none)) else (some false)) else (none)) else (some false)) else (none)) else (some false)) else (none)) else (some false)) = some r := H
          have A13 := Aside0.mk A130
          clear A130
          by_cases c14 : t131 = 0
          · rw [if_pos c14] at H
            have c14b0 : (t131 == 0) = true := beq_iff_eq.mpr c14
            have c14b1 : (t131 != 0) = false := bne_eq_false_iff_eq.mpr c14
            clear c14
            by_cases c15 : 0 < (t124.length : Int)
            · rw [if_pos c15] at H
              have c15b0 : decide (0 < (t124.length : Int)) = true := decide_eq_true c15
              have c15b1 : decide (0 < t124.length) = true := decide_eq_true (by omega)
              clear c15
              by_cases c16 : (((rd_T27 t124 0).f0) == 0 && (((rd_T27 t124 0).f1) == 1 && (((rd_T27 t124 0).f2) == 2))) = true
              · rw [if_pos c16] at H
                have c16b0 : (((rd_T27 t124 0).f0) == 0 && (((rd_T27 t124 0).f1) == 1 && (((rd_T27 t124 0).f2) == 2))) = true := c16
                (try (have c16b1 : decide (((rd_T27 t124 0).f0) = 0 && (((rd_T27 t124 0).f1) == 1 && (((rd_T27 t124 0).f2) == 2))) = true := by simpa using c16))
                (try (have c16b2 : (((rd_T27 t124 0).f0) == 0 && (((rd_T27 t124 0).f1) == 1 && (((rd_T27 t124 0).f2) == 2))) = true := by simpa using c16))
                clear c16
                by_cases c17 : 1 < (t124.length : Int)
                · rw [if_pos c17] at H
                  have c17b0 : decide (1 < (t124.length : Int)) = true := decide_eq_true c17
                  have c17b1 : decide (1 < t124.length) = true := decide_eq_true (by omega)
                  clear c17
                  by_cases c18 : (((rd_T27 t124 1).f0) == 2 && (((rd_T27 t124 1).f1) == 3 && (((rd_T27 t124 1).f2) == 3))) = true
                  · rw [if_pos c18] at H
                    have c18b0 : (((rd_T27 t124 1).f0) == 2 && (((rd_T27 t124 1).f1) == 3 && (((rd_T27 t124 1).f2) == 3))) = true := c18
                    (try (have c18b1 : decide (((rd_T27 t124 1).f0) = 2 && (((rd_T27 t124 1).f1) == 3 && (((rd_T27 t124 1).f2) == 3))) = true := by simpa using c18))
                    (try (have c18b2 : (((rd_T27 t124 1).f0) == 2 && (((rd_T27 t124 1).f1) == 3 && (((rd_T27 t124 1).f2) == 3))) = true := by simpa using c18))
                    clear c18
                    by_cases c19 : 1 < (t127.length : Int)
                    · rw [if_pos c19] at H
                      have c19b0 : decide (1 < (t127.length : Int)) = true := decide_eq_true c19
                      have c19b1 : decide (1 < t127.length) = true := decide_eq_true (by omega)
                      clear c19
                      by_cases c20 : (((rd_T27 t127 1).f0) == 7 && (((rd_T27 t127 1).f1) == 7 && (((rd_T27 t127 1).f2) == 10))) = true
                      · rw [if_pos c20] at H
                        have c20b0 : (((rd_T27 t127 1).f0) == 7 && (((rd_T27 t127 1).f1) == 7 && (((rd_T27 t127 1).f2) == 10))) = true := c20
                        (try (have c20b1 : decide (((rd_T27 t127 1).f0) = 7 && (((rd_T27 t127 1).f1) == 7 && (((rd_T27 t127 1).f2) == 10))) = true := by simpa using c20))
                        (try (have c20b2 : (((rd_T27 t127 1).f0) == 7 && (((rd_T27 t127 1).f1) == 7 && (((rd_T27 t127 1).f2) == 10))) = true := by simpa using c20))
                        clear c20
                        by_cases c21 : 0 < (t127.length : Int)
                        · rw [if_pos c21] at H
                          have c21b0 : decide (0 < (t127.length : Int)) = true := decide_eq_true c21
                          have c21b1 : decide (0 < t127.length) = true := decide_eq_true (by omega)
                          clear c21
                          replace H := Option.bind_eq_some_iff.mp H
                          obtain ⟨t136, A220, H⟩ := H
                          replace H : (if t136 = 1 then ((brk_Check.f kj2 (⟨#[97, 0]⟩ : ByteArray)).bind fun t137 => (if t137 = 1 then ((brk_May.f kj2 (⟨#[239, 187, 191]⟩ : ByteArray) 0).bind fun t138 => (some (t138 == 0))) else (some false))) else (some false)) = some r := H
                          have A22 := Aside0.mk A220
                          clear A220
                          by_cases c23 : t136 = 1
                          · rw [if_pos c23] at H
                            have c23b0 : (t136 == 1) = true := beq_iff_eq.mpr c23
                            have c23b1 : (t136 != 1) = false := bne_eq_false_iff_eq.mpr c23
                            clear c23
                            replace H := Option.bind_eq_some_iff.mp H
                            obtain ⟨t137, A240, H⟩ := H
                            replace H : (if t137 = 1 then ((brk_May.f kj2 (⟨#[239, 187, 191]⟩ : ByteArray) 0).bind fun t138 => (some (t138 == 0))) else (some false)) = some r := H
                            have A24 := Aside0.mk A240
                            clear A240
                            by_cases c25 : t137 = 1
                            · rw [if_pos c25] at H
                              have c25b0 : (t137 == 1) = true := beq_iff_eq.mpr c25
                              have c25b1 : (t137 != 1) = false := bne_eq_false_iff_eq.mpr c25
                              clear c25
                              replace H := Option.bind_eq_some_iff.mp H
                              obtain ⟨t138, A260, H⟩ := H
                              replace H : (some (t138 == 0)) = some r := H
                              have A26 := Aside0.mk A260
                              clear A260
                              obtain rfl := Option.some.inj H
                              go_wp2_with (first | (go_at_call 12; (try (rename_i hK_; simp only [List.append] at hK_)); (with_reducible refine (brk_Break.calls kj2 11 (⟨#[97, 194, 133]⟩ : ByteArray) 1 t130 _ A11.out).mono ?_); rintro e w' ⟨rfl, ⟨nd, rfl⟩⟩) | (go_at_call 12; (try (rename_i hK_; simp only [List.append] at hK_)); (with_reducible refine (brk_Break.calls kj2 12 (⟨#[97, 194, 133]⟩ : ByteArray) 1 t131 _ A13.out).mono ?_); rintro e w' ⟨rfl, ⟨nd, rfl⟩⟩; obtain ⟨Ao27, co27, eo27⟩ := Kd.R_slice HO_1.out; subst eo27; have p132 : 0 ≤ (0 : Int) := (by omega); have q132 : 0 < (t124.length : Int) := of_decide_eq_true (by first | (with_reducible assumption) | assumption); obtain ⟨ad132, e132, hx132_0, hx132_1, hx132_2⟩ := at_T27 (Kd.R_reads' HO_1.out).2.2 0 p132 q132; cases e132; have qi132 : (0 < t124.length) = True := eq_true (by omega); (try rw [show ((0 : Int)).toNat = 0 from rfl] at hx132_0); (try rw [show 0 * 3 = 0 from rfl] at hx132_0); (try rw [Addr.add_zero'] at hx132_0); (try rw [show ((0 : Int)).toNat = 0 from rfl] at hx132_1); (try rw [show 0 * 3 = 0 from rfl] at hx132_1); (try rw [Addr.add_zero'] at hx132_1); (try rw [show ((0 : Int)).toNat = 0 from rfl] at hx132_2); (try rw [show 0 * 3 = 0 from rfl] at hx132_2); (try rw [Addr.add_zero'] at hx132_2); replace p132 := eq_true p132; replace q132 := eq_true q132; have p133 : 0 ≤ (1 : Int) := (by omega); have q133 : 1 < (t124.length : Int) := of_decide_eq_true (by first | (with_reducible assumption) | assumption); obtain ⟨ad133, e133, hx133_0, hx133_1, hx133_2⟩ := at_T27 (Kd.R_reads' HO_1.out).2.2 1 p133 q133; obtain rfl : ad132 = ad133 := (by injection e133); (try simp only [show (1 : Int).toNat = 1 from rfl, Nat.reduceMul, Nat.reduceEqDiff, Go.Addr.add, ↓reduceIte] at hx133_0); (try simp only [show (1 : Int).toNat = 1 from rfl, Nat.reduceMul, Nat.reduceEqDiff, Go.Addr.add, ↓reduceIte] at hx133_1); (try simp only [show (1 : Int).toNat = 1 from rfl, Nat.reduceMul, Nat.reduceEqDiff, Go.Addr.add, ↓reduceIte] at hx133_2); have qi133 : (1 < t124.length) = True := eq_true (by omega); (try rw [show ((1 : Int)).toNat = 1 from rfl] at hx133_0); (try rw [show 1 * 3 = 3 from rfl] at hx133_0); (try rw [show ((1 : Int)).toNat = 1 from rfl] at hx133_1); (try rw [show 1 * 3 = 3 from rfl] at hx133_1); (try rw [show ((1 : Int)).toNat = 1 from rfl] at hx133_2); (try rw [show 1 * 3 = 3 from rfl] at hx133_2); replace p133 := eq_true p133; replace q133 := eq_true q133; obtain ⟨Ao28, co28, eo28⟩ := Kd.R_slice HO_2.out; subst eo28; have p134 : 0 ≤ (1 : Int) := (by omega); have q134 : 1 < (t127.length : Int) := of_decide_eq_true (by first | (with_reducible assumption) | assumption); obtain ⟨ad134, e134, hx134_0, hx134_1, hx134_2⟩ := at_T27 (Kd.R_reads' HO_2.out).2.2 1 p134 q134; cases e134; (try simp only [show (1 : Int).toNat = 1 from rfl, Nat.reduceMul, Nat.reduceEqDiff, Go.Addr.add, ↓reduceIte] at hx134_0); (try simp only [show (1 : Int).toNat = 1 from rfl, Nat.reduceMul, Nat.reduceEqDiff, Go.Addr.add, ↓reduceIte] at hx134_1); (try simp only [show (1 : Int).toNat = 1 from rfl, Nat.reduceMul, Nat.reduceEqDiff, Go.Addr.add, ↓reduceIte] at hx134_2); have qi134 : (1 < t127.length) = True := eq_true (by omega); (try rw [show ((1 : Int)).toNat = 1 from rfl] at hx134_0); (try rw [show 1 * 3 = 3 from rfl] at hx134_0); (try rw [show ((1 : Int)).toNat = 1 from rfl] at hx134_1); (try rw [show 1 * 3 = 3 from rfl] at hx134_1); (try rw [show ((1 : Int)).toNat = 1 from rfl] at hx134_2); (try rw [show 1 * 3 = 3 from rfl] at hx134_2); replace p134 := eq_true p134; replace q134 := eq_true q134; have p135 : 0 ≤ (0 : Int) := (by omega); have q135 : 0 < (t127.length : Int) := of_decide_eq_true (by first | (with_reducible assumption) | assumption); obtain ⟨ad135, e135, hx135_0, hx135_1, hx135_2⟩ := at_T27 (Kd.R_reads' HO_2.out).2.2 0 p135 q135; obtain rfl : ad134 = ad135 := (by injection e135); have qi135 : (0 < t127.length) = True := eq_true (by omega); (try rw [show ((0 : Int)).toNat = 0 from rfl] at hx135_0); (try rw [show 0 * 3 = 0 from rfl] at hx135_0); (try rw [Addr.add_zero'] at hx135_0); (try rw [show ((0 : Int)).toNat = 0 from rfl] at hx135_1); (try rw [show 0 * 3 = 0 from rfl] at hx135_1); (try rw [Addr.add_zero'] at hx135_1); (try rw [show ((0 : Int)).toNat = 0 from rfl] at hx135_2); (try rw [show 0 * 3 = 0 from rfl] at hx135_2); (try rw [Addr.add_zero'] at hx135_2); replace p135 := eq_true p135; replace q135 := eq_true q135) | (go_at_call 24; (try (rename_i hK_; simp only [List.append] at hK_)); (with_reducible refine (brk_Marker.calls kj2 (⟨#[45, 45, 45, 32, 97, 13, 10, 226, 128, 168]⟩ : ByteArray) ((rd_T27 t127 0).f0) ((rd_T27 t127 0).f1) ((rd_T27 t127 0).f2) t136 _ A22.out).mono ?_); rintro e w29 ⟨rfl, hb⟩; have n0_ := Aside0.mk (Kd.R_below (by (with_reducible repeat (first | apply Kd.R_alloc | apply Kd.R_drewN | apply Kd.R_drew)); exact HO_1.out) hb); have n1_ := Aside0.mk (Kd.R_below (by (with_reducible repeat (first | apply Kd.R_alloc | apply Kd.R_drewN | apply Kd.R_drew)); exact HO_2.out) hb); have n2_ := Aside0.mk (below_step (by repeat (first | (with_reducible first | exact HB.out | apply below_alloc | apply pw_below_drewN | apply below_drew1) | exact HB.out)) hb); clear HO_1; clear HO_2; clear HB; have HO_1 := n0_; have HO_2 := n1_; have HB := n2_; clear n0_ n1_ n2_; (try clear hb); (try clear hb2); (try clear hk); (try clear hi)) | (go_at_call 16; (try (rename_i hK_; simp only [List.append] at hK_)); (with_reducible refine (brk_Check.calls kj2 (⟨#[97, 0]⟩ : ByteArray) t137 _ ?side1 A24.out).mono ?_); (case side1 => exact Utf8Tabs_below HG.out (by repeat (first | (with_reducible first | exact HB.out | apply below_alloc | apply pw_below_drewN | apply below_drew1) | exact HB.out))); rintro e w30 ⟨rfl, hb⟩; have n0_ := Aside0.mk (Kd.R_below (by (with_reducible repeat (first | apply Kd.R_alloc | apply Kd.R_drewN | apply Kd.R_drew)); exact HO_1.out) hb); have n1_ := Aside0.mk (Kd.R_below (by (with_reducible repeat (first | apply Kd.R_alloc | apply Kd.R_drewN | apply Kd.R_drew)); exact HO_2.out) hb); have n2_ := Aside0.mk (below_step (by repeat (first | (with_reducible first | exact HB.out | apply below_alloc | apply pw_below_drewN | apply below_drew1) | exact HB.out)) hb); clear HO_1; clear HO_2; clear HB; have HO_1 := n0_; have HO_2 := n1_; have HB := n2_; clear n0_ n1_ n2_; (try clear hb); (try clear hb2); (try clear hk); (try clear hi)) | (go_at_call 17; (try (rename_i hK_; simp only [List.append] at hK_)); (with_reducible refine (brk_May.calls kj2 (⟨#[239, 187, 191]⟩ : ByteArray) 0 t138 _ ?side1 A26.out).mono ?_); (case side1 => exact Utf8Tabs_below HG.out (by repeat (first | (with_reducible first | exact HB.out | apply below_alloc | apply pw_below_drewN | apply below_drew1) | exact HB.out))); rintro e w31 ⟨rfl, hb⟩; have n0_ := Aside0.mk (Kd.R_below (by (with_reducible repeat (first | apply Kd.R_alloc | apply Kd.R_drewN | apply Kd.R_drew)); exact HO_1.out) hb); have n1_ := Aside0.mk (Kd.R_below (by (with_reducible repeat (first | apply Kd.R_alloc | apply Kd.R_drewN | apply Kd.R_drew)); exact HO_2.out) hb); have n2_ := Aside0.mk (below_step (by repeat (first | (with_reducible first | exact HB.out | apply below_alloc | apply pw_below_drewN | apply below_drew1) | exact HB.out)) hb); clear HO_1; clear HO_2; clear HB; have HO_1 := n0_; have HO_2 := n1_; have HB := n2_; clear n0_ n1_ n2_; (try clear hb); (try clear hb2); (try clear hk); (try clear hi)))
                              go_ret
                              exact ⟨by first | rfl | (simp [errW_none, errW_some] <;> rfl) | (simp [*, errW_none, errW_some] <;> rfl), by repeat (first | (with_reducible first | exact HB.out | apply below_alloc | apply pw_below_drewN | apply below_drew1) | exact HB.out)⟩
                            · rw [if_neg c25] at H
                              have c25b0 : (t137 == 1) = false := beq_eq_false_iff_ne.mpr c25
                              have c25b1 : (t137 != 1) = true := bne_iff_ne.mpr c25
                              obtain rfl := Option.some.inj H
                              go_wp2_with (first | (go_at_call 12; (try (rename_i hK_; simp only [List.append] at hK_)); (with_reducible refine (brk_Break.calls kj2 11 (⟨#[97, 194, 133]⟩ : ByteArray) 1 t130 _ A11.out).mono ?_); rintro e w' ⟨rfl, ⟨nd, rfl⟩⟩) | (go_at_call 12; (try (rename_i hK_; simp only [List.append] at hK_)); (with_reducible refine (brk_Break.calls kj2 12 (⟨#[97, 194, 133]⟩ : ByteArray) 1 t131 _ A13.out).mono ?_); rintro e w' ⟨rfl, ⟨nd, rfl⟩⟩; obtain ⟨Ao32, co32, eo32⟩ := Kd.R_slice HO_1.out; subst eo32; have p132 : 0 ≤ (0 : Int) := (by omega); have q132 : 0 < (t124.length : Int) := of_decide_eq_true (by first | (with_reducible assumption) | assumption); obtain ⟨ad132, e132, hx132_0, hx132_1, hx132_2⟩ := at_T27 (Kd.R_reads' HO_1.out).2.2 0 p132 q132; cases e132; have qi132 : (0 < t124.length) = True := eq_true (by omega); (try rw [show ((0 : Int)).toNat = 0 from rfl] at hx132_0); (try rw [show 0 * 3 = 0 from rfl] at hx132_0); (try rw [Addr.add_zero'] at hx132_0); (try rw [show ((0 : Int)).toNat = 0 from rfl] at hx132_1); (try rw [show 0 * 3 = 0 from rfl] at hx132_1); (try rw [Addr.add_zero'] at hx132_1); (try rw [show ((0 : Int)).toNat = 0 from rfl] at hx132_2); (try rw [show 0 * 3 = 0 from rfl] at hx132_2); (try rw [Addr.add_zero'] at hx132_2); replace p132 := eq_true p132; replace q132 := eq_true q132; have p133 : 0 ≤ (1 : Int) := (by omega); have q133 : 1 < (t124.length : Int) := of_decide_eq_true (by first | (with_reducible assumption) | assumption); obtain ⟨ad133, e133, hx133_0, hx133_1, hx133_2⟩ := at_T27 (Kd.R_reads' HO_1.out).2.2 1 p133 q133; obtain rfl : ad132 = ad133 := (by injection e133); (try simp only [show (1 : Int).toNat = 1 from rfl, Nat.reduceMul, Nat.reduceEqDiff, Go.Addr.add, ↓reduceIte] at hx133_0); (try simp only [show (1 : Int).toNat = 1 from rfl, Nat.reduceMul, Nat.reduceEqDiff, Go.Addr.add, ↓reduceIte] at hx133_1); (try simp only [show (1 : Int).toNat = 1 from rfl, Nat.reduceMul, Nat.reduceEqDiff, Go.Addr.add, ↓reduceIte] at hx133_2); have qi133 : (1 < t124.length) = True := eq_true (by omega); (try rw [show ((1 : Int)).toNat = 1 from rfl] at hx133_0); (try rw [show 1 * 3 = 3 from rfl] at hx133_0); (try rw [show ((1 : Int)).toNat = 1 from rfl] at hx133_1); (try rw [show 1 * 3 = 3 from rfl] at hx133_1); (try rw [show ((1 : Int)).toNat = 1 from rfl] at hx133_2); (try rw [show 1 * 3 = 3 from rfl] at hx133_2); replace p133 := eq_true p133; replace q133 := eq_true q133; obtain ⟨Ao33, co33, eo33⟩ := Kd.R_slice HO_2.out; subst eo33; have p134 : 0 ≤ (1 : Int) := (by omega); have q134 : 1 < (t127.length : Int) := of_decide_eq_true (by first | (with_reducible assumption) | assumption); obtain ⟨ad134, e134, hx134_0, hx134_1, hx134_2⟩ := at_T27 (Kd.R_reads' HO_2.out).2.2 1 p134 q134; cases e134; (try simp only [show (1 : Int).toNat = 1 from rfl, Nat.reduceMul, Nat.reduceEqDiff, Go.Addr.add, ↓reduceIte] at hx134_0); (try simp only [show (1 : Int).toNat = 1 from rfl, Nat.reduceMul, Nat.reduceEqDiff, Go.Addr.add, ↓reduceIte] at hx134_1); (try simp only [show (1 : Int).toNat = 1 from rfl, Nat.reduceMul, Nat.reduceEqDiff, Go.Addr.add, ↓reduceIte] at hx134_2); have qi134 : (1 < t127.length) = True := eq_true (by omega); (try rw [show ((1 : Int)).toNat = 1 from rfl] at hx134_0); (try rw [show 1 * 3 = 3 from rfl] at hx134_0); (try rw [show ((1 : Int)).toNat = 1 from rfl] at hx134_1); (try rw [show 1 * 3 = 3 from rfl] at hx134_1); (try rw [show ((1 : Int)).toNat = 1 from rfl] at hx134_2); (try rw [show 1 * 3 = 3 from rfl] at hx134_2); replace p134 := eq_true p134; replace q134 := eq_true q134; have p135 : 0 ≤ (0 : Int) := (by omega); have q135 : 0 < (t127.length : Int) := of_decide_eq_true (by first | (with_reducible assumption) | assumption); obtain ⟨ad135, e135, hx135_0, hx135_1, hx135_2⟩ := at_T27 (Kd.R_reads' HO_2.out).2.2 0 p135 q135; obtain rfl : ad134 = ad135 := (by injection e135); have qi135 : (0 < t127.length) = True := eq_true (by omega); (try rw [show ((0 : Int)).toNat = 0 from rfl] at hx135_0); (try rw [show 0 * 3 = 0 from rfl] at hx135_0); (try rw [Addr.add_zero'] at hx135_0); (try rw [show ((0 : Int)).toNat = 0 from rfl] at hx135_1); (try rw [show 0 * 3 = 0 from rfl] at hx135_1); (try rw [Addr.add_zero'] at hx135_1); (try rw [show ((0 : Int)).toNat = 0 from rfl] at hx135_2); (try rw [show 0 * 3 = 0 from rfl] at hx135_2); (try rw [Addr.add_zero'] at hx135_2); replace p135 := eq_true p135; replace q135 := eq_true q135) | (go_at_call 24; (try (rename_i hK_; simp only [List.append] at hK_)); (with_reducible refine (brk_Marker.calls kj2 (⟨#[45, 45, 45, 32, 97, 13, 10, 226, 128, 168]⟩ : ByteArray) ((rd_T27 t127 0).f0) ((rd_T27 t127 0).f1) ((rd_T27 t127 0).f2) t136 _ A22.out).mono ?_); rintro e w34 ⟨rfl, hb⟩; have n0_ := Aside0.mk (Kd.R_below (by (with_reducible repeat (first | apply Kd.R_alloc | apply Kd.R_drewN | apply Kd.R_drew)); exact HO_1.out) hb); have n1_ := Aside0.mk (Kd.R_below (by (with_reducible repeat (first | apply Kd.R_alloc | apply Kd.R_drewN | apply Kd.R_drew)); exact HO_2.out) hb); have n2_ := Aside0.mk (below_step (by repeat (first | (with_reducible first | exact HB.out | apply below_alloc | apply pw_below_drewN | apply below_drew1) | exact HB.out)) hb); clear HO_1; clear HO_2; clear HB; have HO_1 := n0_; have HO_2 := n1_; have HB := n2_; clear n0_ n1_ n2_; (try clear hb); (try clear hb2); (try clear hk); (try clear hi)) | (go_at_call 16; (try (rename_i hK_; simp only [List.append] at hK_)); (with_reducible refine (brk_Check.calls kj2 (⟨#[97, 0]⟩ : ByteArray) t137 _ ?side1 A24.out).mono ?_); (case side1 => exact Utf8Tabs_below HG.out (by repeat (first | (with_reducible first | exact HB.out | apply below_alloc | apply pw_below_drewN | apply below_drew1) | exact HB.out))); rintro e w35 ⟨rfl, hb⟩; have n0_ := Aside0.mk (Kd.R_below (by (with_reducible repeat (first | apply Kd.R_alloc | apply Kd.R_drewN | apply Kd.R_drew)); exact HO_1.out) hb); have n1_ := Aside0.mk (Kd.R_below (by (with_reducible repeat (first | apply Kd.R_alloc | apply Kd.R_drewN | apply Kd.R_drew)); exact HO_2.out) hb); have n2_ := Aside0.mk (below_step (by repeat (first | (with_reducible first | exact HB.out | apply below_alloc | apply pw_below_drewN | apply below_drew1) | exact HB.out)) hb); clear HO_1; clear HO_2; clear HB; have HO_1 := n0_; have HO_2 := n1_; have HB := n2_; clear n0_ n1_ n2_; (try clear hb); (try clear hb2); (try clear hk); (try clear hi)))
                              go_ret
                              exact ⟨by first | rfl | (simp [errW_none, errW_some] <;> rfl) | (simp [*, errW_none, errW_some] <;> rfl), by repeat (first | (with_reducible first | exact HB.out | apply below_alloc | apply pw_below_drewN | apply below_drew1) | exact HB.out)⟩
                          · rw [if_neg c23] at H
                            have c23b0 : (t136 == 1) = false := beq_eq_false_iff_ne.mpr c23
                            have c23b1 : (t136 != 1) = true := bne_iff_ne.mpr c23
                            obtain rfl := Option.some.inj H
                            go_wp2_with (first | (go_at_call 12; (try (rename_i hK_; simp only [List.append] at hK_)); (with_reducible refine (brk_Break.calls kj2 11 (⟨#[97, 194, 133]⟩ : ByteArray) 1 t130 _ A11.out).mono ?_); rintro e w' ⟨rfl, ⟨nd, rfl⟩⟩) | (go_at_call 12; (try (rename_i hK_; simp only [List.append] at hK_)); (with_reducible refine (brk_Break.calls kj2 12 (⟨#[97, 194, 133]⟩ : ByteArray) 1 t131 _ A13.out).mono ?_); rintro e w' ⟨rfl, ⟨nd, rfl⟩⟩; obtain ⟨Ao36, co36, eo36⟩ := Kd.R_slice HO_1.out; subst eo36; have p132 : 0 ≤ (0 : Int) := (by omega); have q132 : 0 < (t124.length : Int) := of_decide_eq_true (by first | (with_reducible assumption) | assumption); obtain ⟨ad132, e132, hx132_0, hx132_1, hx132_2⟩ := at_T27 (Kd.R_reads' HO_1.out).2.2 0 p132 q132; cases e132; have qi132 : (0 < t124.length) = True := eq_true (by omega); (try rw [show ((0 : Int)).toNat = 0 from rfl] at hx132_0); (try rw [show 0 * 3 = 0 from rfl] at hx132_0); (try rw [Addr.add_zero'] at hx132_0); (try rw [show ((0 : Int)).toNat = 0 from rfl] at hx132_1); (try rw [show 0 * 3 = 0 from rfl] at hx132_1); (try rw [Addr.add_zero'] at hx132_1); (try rw [show ((0 : Int)).toNat = 0 from rfl] at hx132_2); (try rw [show 0 * 3 = 0 from rfl] at hx132_2); (try rw [Addr.add_zero'] at hx132_2); replace p132 := eq_true p132; replace q132 := eq_true q132; have p133 : 0 ≤ (1 : Int) := (by omega); have q133 : 1 < (t124.length : Int) := of_decide_eq_true (by first | (with_reducible assumption) | assumption); obtain ⟨ad133, e133, hx133_0, hx133_1, hx133_2⟩ := at_T27 (Kd.R_reads' HO_1.out).2.2 1 p133 q133; obtain rfl : ad132 = ad133 := (by injection e133); (try simp only [show (1 : Int).toNat = 1 from rfl, Nat.reduceMul, Nat.reduceEqDiff, Go.Addr.add, ↓reduceIte] at hx133_0); (try simp only [show (1 : Int).toNat = 1 from rfl, Nat.reduceMul, Nat.reduceEqDiff, Go.Addr.add, ↓reduceIte] at hx133_1); (try simp only [show (1 : Int).toNat = 1 from rfl, Nat.reduceMul, Nat.reduceEqDiff, Go.Addr.add, ↓reduceIte] at hx133_2); have qi133 : (1 < t124.length) = True := eq_true (by omega); (try rw [show ((1 : Int)).toNat = 1 from rfl] at hx133_0); (try rw [show 1 * 3 = 3 from rfl] at hx133_0); (try rw [show ((1 : Int)).toNat = 1 from rfl] at hx133_1); (try rw [show 1 * 3 = 3 from rfl] at hx133_1); (try rw [show ((1 : Int)).toNat = 1 from rfl] at hx133_2); (try rw [show 1 * 3 = 3 from rfl] at hx133_2); replace p133 := eq_true p133; replace q133 := eq_true q133; obtain ⟨Ao37, co37, eo37⟩ := Kd.R_slice HO_2.out; subst eo37; have p134 : 0 ≤ (1 : Int) := (by omega); have q134 : 1 < (t127.length : Int) := of_decide_eq_true (by first | (with_reducible assumption) | assumption); obtain ⟨ad134, e134, hx134_0, hx134_1, hx134_2⟩ := at_T27 (Kd.R_reads' HO_2.out).2.2 1 p134 q134; cases e134; (try simp only [show (1 : Int).toNat = 1 from rfl, Nat.reduceMul, Nat.reduceEqDiff, Go.Addr.add, ↓reduceIte] at hx134_0); (try simp only [show (1 : Int).toNat = 1 from rfl, Nat.reduceMul, Nat.reduceEqDiff, Go.Addr.add, ↓reduceIte] at hx134_1); (try simp only [show (1 : Int).toNat = 1 from rfl, Nat.reduceMul, Nat.reduceEqDiff, Go.Addr.add, ↓reduceIte] at hx134_2); have qi134 : (1 < t127.length) = True := eq_true (by omega); (try rw [show ((1 : Int)).toNat = 1 from rfl] at hx134_0); (try rw [show 1 * 3 = 3 from rfl] at hx134_0); (try rw [show ((1 : Int)).toNat = 1 from rfl] at hx134_1); (try rw [show 1 * 3 = 3 from rfl] at hx134_1); (try rw [show ((1 : Int)).toNat = 1 from rfl] at hx134_2); (try rw [show 1 * 3 = 3 from rfl] at hx134_2); replace p134 := eq_true p134; replace q134 := eq_true q134; have p135 : 0 ≤ (0 : Int) := (by omega); have q135 : 0 < (t127.length : Int) := of_decide_eq_true (by first | (with_reducible assumption) | assumption); obtain ⟨ad135, e135, hx135_0, hx135_1, hx135_2⟩ := at_T27 (Kd.R_reads' HO_2.out).2.2 0 p135 q135; obtain rfl : ad134 = ad135 := (by injection e135); have qi135 : (0 < t127.length) = True := eq_true (by omega); (try rw [show ((0 : Int)).toNat = 0 from rfl] at hx135_0); (try rw [show 0 * 3 = 0 from rfl] at hx135_0); (try rw [Addr.add_zero'] at hx135_0); (try rw [show ((0 : Int)).toNat = 0 from rfl] at hx135_1); (try rw [show 0 * 3 = 0 from rfl] at hx135_1); (try rw [Addr.add_zero'] at hx135_1); (try rw [show ((0 : Int)).toNat = 0 from rfl] at hx135_2); (try rw [show 0 * 3 = 0 from rfl] at hx135_2); (try rw [Addr.add_zero'] at hx135_2); replace p135 := eq_true p135; replace q135 := eq_true q135) | (go_at_call 24; (try (rename_i hK_; simp only [List.append] at hK_)); (with_reducible refine (brk_Marker.calls kj2 (⟨#[45, 45, 45, 32, 97, 13, 10, 226, 128, 168]⟩ : ByteArray) ((rd_T27 t127 0).f0) ((rd_T27 t127 0).f1) ((rd_T27 t127 0).f2) t136 _ A22.out).mono ?_); rintro e w38 ⟨rfl, hb⟩; have n0_ := Aside0.mk (Kd.R_below (by (with_reducible repeat (first | apply Kd.R_alloc | apply Kd.R_drewN | apply Kd.R_drew)); exact HO_1.out) hb); have n1_ := Aside0.mk (Kd.R_below (by (with_reducible repeat (first | apply Kd.R_alloc | apply Kd.R_drewN | apply Kd.R_drew)); exact HO_2.out) hb); have n2_ := Aside0.mk (below_step (by repeat (first | (with_reducible first | exact HB.out | apply below_alloc | apply pw_below_drewN | apply below_drew1) | exact HB.out)) hb); clear HO_1; clear HO_2; clear HB; have HO_1 := n0_; have HO_2 := n1_; have HB := n2_; clear n0_ n1_ n2_; (try clear hb); (try clear hb2); (try clear hk); (try clear hi)))
                            go_ret
                            exact ⟨by first | rfl | (simp [errW_none, errW_some] <;> rfl) | (simp [*, errW_none, errW_some] <;> rfl), by repeat (first | (with_reducible first | exact HB.out | apply below_alloc | apply pw_below_drewN | apply below_drew1) | exact HB.out)⟩
                        · rw [if_neg c21] at H
                          exact absurd H (by simp)
                      · rw [if_neg c20] at H
                        have c20b0 : (((rd_T27 t127 1).f0) == 7 && (((rd_T27 t127 1).f1) == 7 && (((rd_T27 t127 1).f2) == 10))) = false := by simpa using c20
                        (try (have c20b1 : decide (((rd_T27 t127 1).f0) = 7 && (((rd_T27 t127 1).f1) == 7 && (((rd_T27 t127 1).f2) == 10))) = false := by simpa using c20))
                        (try (have c20b2 : (((rd_T27 t127 1).f0) == 7 && (((rd_T27 t127 1).f1) == 7 && (((rd_T27 t127 1).f2) == 10))) = false := by simpa using c20))
                        (try (have c20b3 : ¬ (((rd_T27 t127 1).f0) = 7 && (((rd_T27 t127 1).f1) == 7 && (((rd_T27 t127 1).f2) == 10))) := by simpa using c20))
                        clear c20
                        obtain rfl := Option.some.inj H
                        go_wp2_with (first | (go_at_call 12; (try (rename_i hK_; simp only [List.append] at hK_)); (with_reducible refine (brk_Break.calls kj2 11 (⟨#[97, 194, 133]⟩ : ByteArray) 1 t130 _ A11.out).mono ?_); rintro e w' ⟨rfl, ⟨nd, rfl⟩⟩) | (go_at_call 12; (try (rename_i hK_; simp only [List.append] at hK_)); (with_reducible refine (brk_Break.calls kj2 12 (⟨#[97, 194, 133]⟩ : ByteArray) 1 t131 _ A13.out).mono ?_); rintro e w' ⟨rfl, ⟨nd, rfl⟩⟩; obtain ⟨Ao39, co39, eo39⟩ := Kd.R_slice HO_1.out; subst eo39; have p132 : 0 ≤ (0 : Int) := (by omega); have q132 : 0 < (t124.length : Int) := of_decide_eq_true (by first | (with_reducible assumption) | assumption); obtain ⟨ad132, e132, hx132_0, hx132_1, hx132_2⟩ := at_T27 (Kd.R_reads' HO_1.out).2.2 0 p132 q132; cases e132; have qi132 : (0 < t124.length) = True := eq_true (by omega); (try rw [show ((0 : Int)).toNat = 0 from rfl] at hx132_0); (try rw [show 0 * 3 = 0 from rfl] at hx132_0); (try rw [Addr.add_zero'] at hx132_0); (try rw [show ((0 : Int)).toNat = 0 from rfl] at hx132_1); (try rw [show 0 * 3 = 0 from rfl] at hx132_1); (try rw [Addr.add_zero'] at hx132_1); (try rw [show ((0 : Int)).toNat = 0 from rfl] at hx132_2); (try rw [show 0 * 3 = 0 from rfl] at hx132_2); (try rw [Addr.add_zero'] at hx132_2); replace p132 := eq_true p132; replace q132 := eq_true q132; have p133 : 0 ≤ (1 : Int) := (by omega); have q133 : 1 < (t124.length : Int) := of_decide_eq_true (by first | (with_reducible assumption) | assumption); obtain ⟨ad133, e133, hx133_0, hx133_1, hx133_2⟩ := at_T27 (Kd.R_reads' HO_1.out).2.2 1 p133 q133; obtain rfl : ad132 = ad133 := (by injection e133); (try simp only [show (1 : Int).toNat = 1 from rfl, Nat.reduceMul, Nat.reduceEqDiff, Go.Addr.add, ↓reduceIte] at hx133_0); (try simp only [show (1 : Int).toNat = 1 from rfl, Nat.reduceMul, Nat.reduceEqDiff, Go.Addr.add, ↓reduceIte] at hx133_1); (try simp only [show (1 : Int).toNat = 1 from rfl, Nat.reduceMul, Nat.reduceEqDiff, Go.Addr.add, ↓reduceIte] at hx133_2); have qi133 : (1 < t124.length) = True := eq_true (by omega); (try rw [show ((1 : Int)).toNat = 1 from rfl] at hx133_0); (try rw [show 1 * 3 = 3 from rfl] at hx133_0); (try rw [show ((1 : Int)).toNat = 1 from rfl] at hx133_1); (try rw [show 1 * 3 = 3 from rfl] at hx133_1); (try rw [show ((1 : Int)).toNat = 1 from rfl] at hx133_2); (try rw [show 1 * 3 = 3 from rfl] at hx133_2); replace p133 := eq_true p133; replace q133 := eq_true q133; obtain ⟨Ao40, co40, eo40⟩ := Kd.R_slice HO_2.out; subst eo40; have p134 : 0 ≤ (1 : Int) := (by omega); have q134 : 1 < (t127.length : Int) := of_decide_eq_true (by first | (with_reducible assumption) | assumption); obtain ⟨ad134, e134, hx134_0, hx134_1, hx134_2⟩ := at_T27 (Kd.R_reads' HO_2.out).2.2 1 p134 q134; cases e134; (try simp only [show (1 : Int).toNat = 1 from rfl, Nat.reduceMul, Nat.reduceEqDiff, Go.Addr.add, ↓reduceIte] at hx134_0); (try simp only [show (1 : Int).toNat = 1 from rfl, Nat.reduceMul, Nat.reduceEqDiff, Go.Addr.add, ↓reduceIte] at hx134_1); (try simp only [show (1 : Int).toNat = 1 from rfl, Nat.reduceMul, Nat.reduceEqDiff, Go.Addr.add, ↓reduceIte] at hx134_2); have qi134 : (1 < t127.length) = True := eq_true (by omega); (try rw [show ((1 : Int)).toNat = 1 from rfl] at hx134_0); (try rw [show 1 * 3 = 3 from rfl] at hx134_0); (try rw [show ((1 : Int)).toNat = 1 from rfl] at hx134_1); (try rw [show 1 * 3 = 3 from rfl] at hx134_1); (try rw [show ((1 : Int)).toNat = 1 from rfl] at hx134_2); (try rw [show 1 * 3 = 3 from rfl] at hx134_2); replace p134 := eq_true p134; replace q134 := eq_true q134))
                        go_ret
                        exact ⟨by first | rfl | (simp [errW_none, errW_some] <;> rfl) | (simp [*, errW_none, errW_some] <;> rfl), by repeat (first | (with_reducible first | exact HB.out | apply below_alloc | apply pw_below_drewN | apply below_drew1) | exact HB.out)⟩
                    · rw [if_neg c19] at H
                      exact absurd H (by simp)
                  · rw [if_neg c18] at H
                    have c18b0 : (((rd_T27 t124 1).f0) == 2 && (((rd_T27 t124 1).f1) == 3 && (((rd_T27 t124 1).f2) == 3))) = false := by simpa using c18
                    (try (have c18b1 : decide (((rd_T27 t124 1).f0) = 2 && (((rd_T27 t124 1).f1) == 3 && (((rd_T27 t124 1).f2) == 3))) = false := by simpa using c18))
                    (try (have c18b2 : (((rd_T27 t124 1).f0) == 2 && (((rd_T27 t124 1).f1) == 3 && (((rd_T27 t124 1).f2) == 3))) = false := by simpa using c18))
                    (try (have c18b3 : ¬ (((rd_T27 t124 1).f0) = 2 && (((rd_T27 t124 1).f1) == 3 && (((rd_T27 t124 1).f2) == 3))) := by simpa using c18))
                    clear c18
                    obtain rfl := Option.some.inj H
                    go_wp2_with (first | (go_at_call 12; (try (rename_i hK_; simp only [List.append] at hK_)); (with_reducible refine (brk_Break.calls kj2 11 (⟨#[97, 194, 133]⟩ : ByteArray) 1 t130 _ A11.out).mono ?_); rintro e w' ⟨rfl, ⟨nd, rfl⟩⟩) | (go_at_call 12; (try (rename_i hK_; simp only [List.append] at hK_)); (with_reducible refine (brk_Break.calls kj2 12 (⟨#[97, 194, 133]⟩ : ByteArray) 1 t131 _ A13.out).mono ?_); rintro e w' ⟨rfl, ⟨nd, rfl⟩⟩; obtain ⟨Ao41, co41, eo41⟩ := Kd.R_slice HO_1.out; subst eo41; have p132 : 0 ≤ (0 : Int) := (by omega); have q132 : 0 < (t124.length : Int) := of_decide_eq_true (by first | (with_reducible assumption) | assumption); obtain ⟨ad132, e132, hx132_0, hx132_1, hx132_2⟩ := at_T27 (Kd.R_reads' HO_1.out).2.2 0 p132 q132; cases e132; have qi132 : (0 < t124.length) = True := eq_true (by omega); (try rw [show ((0 : Int)).toNat = 0 from rfl] at hx132_0); (try rw [show 0 * 3 = 0 from rfl] at hx132_0); (try rw [Addr.add_zero'] at hx132_0); (try rw [show ((0 : Int)).toNat = 0 from rfl] at hx132_1); (try rw [show 0 * 3 = 0 from rfl] at hx132_1); (try rw [Addr.add_zero'] at hx132_1); (try rw [show ((0 : Int)).toNat = 0 from rfl] at hx132_2); (try rw [show 0 * 3 = 0 from rfl] at hx132_2); (try rw [Addr.add_zero'] at hx132_2); replace p132 := eq_true p132; replace q132 := eq_true q132; have p133 : 0 ≤ (1 : Int) := (by omega); have q133 : 1 < (t124.length : Int) := of_decide_eq_true (by first | (with_reducible assumption) | assumption); obtain ⟨ad133, e133, hx133_0, hx133_1, hx133_2⟩ := at_T27 (Kd.R_reads' HO_1.out).2.2 1 p133 q133; obtain rfl : ad132 = ad133 := (by injection e133); (try simp only [show (1 : Int).toNat = 1 from rfl, Nat.reduceMul, Nat.reduceEqDiff, Go.Addr.add, ↓reduceIte] at hx133_0); (try simp only [show (1 : Int).toNat = 1 from rfl, Nat.reduceMul, Nat.reduceEqDiff, Go.Addr.add, ↓reduceIte] at hx133_1); (try simp only [show (1 : Int).toNat = 1 from rfl, Nat.reduceMul, Nat.reduceEqDiff, Go.Addr.add, ↓reduceIte] at hx133_2); have qi133 : (1 < t124.length) = True := eq_true (by omega); (try rw [show ((1 : Int)).toNat = 1 from rfl] at hx133_0); (try rw [show 1 * 3 = 3 from rfl] at hx133_0); (try rw [show ((1 : Int)).toNat = 1 from rfl] at hx133_1); (try rw [show 1 * 3 = 3 from rfl] at hx133_1); (try rw [show ((1 : Int)).toNat = 1 from rfl] at hx133_2); (try rw [show 1 * 3 = 3 from rfl] at hx133_2); replace p133 := eq_true p133; replace q133 := eq_true q133))
                    go_ret
                    exact ⟨by first | rfl | (simp [errW_none, errW_some] <;> rfl) | (simp [*, errW_none, errW_some] <;> rfl), by repeat (first | (with_reducible first | exact HB.out | apply below_alloc | apply pw_below_drewN | apply below_drew1) | exact HB.out)⟩
                · rw [if_neg c17] at H
                  exact absurd H (by simp)
              · rw [if_neg c16] at H
                have c16b0 : (((rd_T27 t124 0).f0) == 0 && (((rd_T27 t124 0).f1) == 1 && (((rd_T27 t124 0).f2) == 2))) = false := by simpa using c16
                (try (have c16b1 : decide (((rd_T27 t124 0).f0) = 0 && (((rd_T27 t124 0).f1) == 1 && (((rd_T27 t124 0).f2) == 2))) = false := by simpa using c16))
                (try (have c16b2 : (((rd_T27 t124 0).f0) == 0 && (((rd_T27 t124 0).f1) == 1 && (((rd_T27 t124 0).f2) == 2))) = false := by simpa using c16))
                (try (have c16b3 : ¬ (((rd_T27 t124 0).f0) = 0 && (((rd_T27 t124 0).f1) == 1 && (((rd_T27 t124 0).f2) == 2))) := by simpa using c16))
                clear c16
                obtain rfl := Option.some.inj H
                go_wp2_with (first | (go_at_call 12; (try (rename_i hK_; simp only [List.append] at hK_)); (with_reducible refine (brk_Break.calls kj2 11 (⟨#[97, 194, 133]⟩ : ByteArray) 1 t130 _ A11.out).mono ?_); rintro e w' ⟨rfl, ⟨nd, rfl⟩⟩) | (go_at_call 12; (try (rename_i hK_; simp only [List.append] at hK_)); (with_reducible refine (brk_Break.calls kj2 12 (⟨#[97, 194, 133]⟩ : ByteArray) 1 t131 _ A13.out).mono ?_); rintro e w' ⟨rfl, ⟨nd, rfl⟩⟩; obtain ⟨Ao42, co42, eo42⟩ := Kd.R_slice HO_1.out; subst eo42; have p132 : 0 ≤ (0 : Int) := (by omega); have q132 : 0 < (t124.length : Int) := of_decide_eq_true (by first | (with_reducible assumption) | assumption); obtain ⟨ad132, e132, hx132_0, hx132_1, hx132_2⟩ := at_T27 (Kd.R_reads' HO_1.out).2.2 0 p132 q132; cases e132; have qi132 : (0 < t124.length) = True := eq_true (by omega); (try rw [show ((0 : Int)).toNat = 0 from rfl] at hx132_0); (try rw [show 0 * 3 = 0 from rfl] at hx132_0); (try rw [Addr.add_zero'] at hx132_0); (try rw [show ((0 : Int)).toNat = 0 from rfl] at hx132_1); (try rw [show 0 * 3 = 0 from rfl] at hx132_1); (try rw [Addr.add_zero'] at hx132_1); (try rw [show ((0 : Int)).toNat = 0 from rfl] at hx132_2); (try rw [show 0 * 3 = 0 from rfl] at hx132_2); (try rw [Addr.add_zero'] at hx132_2); replace p132 := eq_true p132; replace q132 := eq_true q132))
                go_ret
                exact ⟨by first | rfl | (simp [errW_none, errW_some] <;> rfl) | (simp [*, errW_none, errW_some] <;> rfl), by repeat (first | (with_reducible first | exact HB.out | apply below_alloc | apply pw_below_drewN | apply below_drew1) | exact HB.out)⟩
            · rw [if_neg c15] at H
              exact absurd H (by simp)
          · rw [if_neg c14] at H
            have c14b0 : (t131 == 0) = false := beq_eq_false_iff_ne.mpr c14
            have c14b1 : (t131 != 0) = true := bne_iff_ne.mpr c14
            obtain rfl := Option.some.inj H
            go_wp2_with (first | (go_at_call 12; (try (rename_i hK_; simp only [List.append] at hK_)); (with_reducible refine (brk_Break.calls kj2 11 (⟨#[97, 194, 133]⟩ : ByteArray) 1 t130 _ A11.out).mono ?_); rintro e w' ⟨rfl, ⟨nd, rfl⟩⟩) | (go_at_call 12; (try (rename_i hK_; simp only [List.append] at hK_)); (with_reducible refine (brk_Break.calls kj2 12 (⟨#[97, 194, 133]⟩ : ByteArray) 1 t131 _ A13.out).mono ?_); rintro e w' ⟨rfl, ⟨nd, rfl⟩⟩))
            go_ret
            exact ⟨by first | rfl | (simp [errW_none, errW_some] <;> rfl) | (simp [*, errW_none, errW_some] <;> rfl), by repeat (first | (with_reducible first | exact HB.out | apply below_alloc | apply pw_below_drewN | apply below_drew1) | exact HB.out)⟩
        · rw [if_neg c12] at H
          have c12b0 : (t130 == 2) = false := beq_eq_false_iff_ne.mpr c12
          have c12b1 : (t130 != 2) = true := bne_iff_ne.mpr c12
          obtain rfl := Option.some.inj H
          go_wp2_with (first | (go_at_call 12; (try (rename_i hK_; simp only [List.append] at hK_)); (with_reducible refine (brk_Break.calls kj2 11 (⟨#[97, 194, 133]⟩ : ByteArray) 1 t130 _ A11.out).mono ?_); rintro e w' ⟨rfl, ⟨nd, rfl⟩⟩))
          go_ret
          exact ⟨by first | rfl | (simp [errW_none, errW_some] <;> rfl) | (simp [*, errW_none, errW_some] <;> rfl), by repeat (first | (with_reducible first | exact HB.out | apply below_alloc | apply pw_below_drewN | apply below_drew1) | exact HB.out)⟩

/-! ### targumhelp_Lines: function 13 -/
def targumhelp_Lines.l0 : Nat → List (S27) → List (S27) → Int → Option (Bool)
  | 0, _, _, _ => none
  | k + 1, x0, x1, x5 => if x5 < (x0.length : Int) then (if 0 ≤ x5 then (if x5 < (x1.length : Int) then (if (!(((rd_T27 x0 x5).f0) == ((rd_T27 x1 x5).f0)) || (!(((rd_T27 x0 x5).f1) == ((rd_T27 x1 x5).f1)) || (!(((rd_T27 x0 x5).f2) == ((rd_T27 x1 x5).f2))))) = true then (some false) else (targumhelp_Lines.l0 k x0 x1 (wrap64 (x5 + 1)))) else (none)) else (none)) else (some true)
def targumhelp_Lines.f (k : Nat) (l0 : List (S27)) (l1 : List (S27)) : Option (Bool) := if (l0.length : Int) = (l1.length : Int) then (targumhelp_Lines.l0 k l0 l1 0) else (some false)
theorem targumhelp_Lines.mono_l : ∀ k, (∀ y0 y1 y2, LeO (targumhelp_Lines.l0 k y0 y1 y2) (targumhelp_Lines.l0 (k + 1) y0 y1 y2))
  | 0 => fun _ _ _ r h => by simp [targumhelp_Lines.l0] at h
  | k + 1 => by
    have ih0 := targumhelp_Lines.mono_l k
    · intro y0 y1 y2
      unfold targumhelp_Lines.l0
      repeat' first
      | (with_reducible exact ih0 _ _ _)
      | (with_reducible exact LeO.refl _)
      | (with_reducible exact LeO.none _)
      | (with_reducible refine LeO.ite ?_ ?_)
      | (with_reducible refine LeO.bind ?_ (fun _ => ?_))
      | exact ih0 _ _ _
      | exact LeO.none _
      | refine LeO.ite ?_ ?_
      | refine LeO.bind ?_ (fun _ => ?_)
theorem targumhelp_Lines.mono : ∀ a0 a1 k, LeO (targumhelp_Lines.f k a0 a1) (targumhelp_Lines.f (k + 1) a0 a1) := by
  intro a0 a1 k
  have ih0 := targumhelp_Lines.mono_l k
  unfold targumhelp_Lines.f
  repeat' first
      | (with_reducible exact ih0 _ _ _)
      | (with_reducible exact LeO.refl _)
      | (with_reducible exact LeO.none _)
      | (with_reducible refine LeO.ite ?_ ?_)
      | (with_reducible refine LeO.bind ?_ (fun _ => ?_))
      | exact ih0 _ _ _
      | exact LeO.none _
      | refine LeO.ite ?_ ?_
      | refine LeO.bind ?_ (fun _ => ?_)
set_option maxHeartbeats 8000000 in
set_option maxRecDepth 100000 in
theorem targumhelp_Lines.calls (k : Nat) (A0 : Option Addr) (c0 : Nat) (l0 : List (S27)) (A1 : Option Addr) (c1 : Nat) (l1 : List (S27)) (r : Bool) (w : World) (hr0 : Kd.C k27 w A0 l0.length l0) (hc0 : l0.length ≤ c0) (hr1 : Kd.C k27 w A1 l1.length l1) (hc1 : l1.length ≤ c1) (h : targumhelp_Lines.f k l0 l1 = some r) :
    Calls Tryd.prog 13 #[.slice A0 l0.length c0, .slice A1 l1.length c1] w fun e w' => e = .returned (.bool r) ∧ Drawn0 w w' := by
  have hu27 := Tryd.underlying27
  have HR0 := Aside0.mk hr0
  have HC0 := Aside0.mk hc0
  clear hr0 hc0
  have HR1 := Aside0.mk hr1
  have HC1 := Aside0.mk hc1
  clear hr1 hc1
  have H : (if (l0.length : Int) = (l1.length : Int) then (targumhelp_Lines.l0 k l0 l1 0) else (some false)) = some r := h
  clear h
  by_cases c3 : (l0.length : Int) = (l1.length : Int)
  · rw [if_pos c3] at H
    have c3b0 : ((l0.length : Int) == (l1.length : Int)) = true := beq_iff_eq.mpr c3
    have c3b1 : ((l0.length : Int) != (l1.length : Int)) = false := bne_eq_false_iff_eq.mpr c3
    have c3b2 : (l0.length == l1.length) = true := by first | simpa using c3 | (simp at c3 ⊢; omega)
    clear c3
    have H' := Aside0.mk H
    clear H
    go_enter Tryd.func13, Tryd.ntmps13
    go_wp2
    repeat (go_quiet (fail); try go_wp2)
    go_loopg [5] k (fun kq v5 w' => ∃ (x5_1 : Int), v5 = .int .i64 x5_1 ∧ Aside0 (targumhelp_Lines.l0 kq l0 l1 x5_1 = some r) ∧ Aside0 (kq ≤ k) ∧ Drawn0 w w')
    case atStart => exact ⟨(0), (by first | rfl | (simp; done) | (simp [*]; done) | (simp [wrap64]; done)), H', ⟨Nat.le_refl _⟩, by repeat (first | exact Drawn0.refl _ | apply Drawn0.step)⟩
    case round =>
      clear H'
      try clear c1
      try clear p2
      try clear c3
      try clear c3b0
      try clear c3b1
      try clear c3b2
      obtain ⟨x5_1, rfl, HA, HK1, ⟨m1, rfl⟩⟩ := hrel
      cases gk with
      | zero => exact absurd HA.out (by simp [targumhelp_Lines.l0])
      | succ k1 =>
        have H := HA.out
        clear HA
        simp only [targumhelp_Lines.l0] at H
        by_cases c4 : x5_1 < (l0.length : Int)
        · rw [if_pos c4] at H
          have c4b0 : decide (x5_1 < (l0.length : Int)) = true := decide_eq_true c4
          clear c4
          by_cases c5 : 0 ≤ x5_1
          · rw [if_pos c5] at H
            have c5b0 : decide (0 ≤ x5_1) = true := decide_eq_true c5
            clear c5
            by_cases c6 : x5_1 < (l1.length : Int)
            · rw [if_pos c6] at H
              have c6b0 : decide (x5_1 < (l1.length : Int)) = true := decide_eq_true c6
              clear c6
              by_cases c7 : (!(((rd_T27 l0 x5_1).f0) == ((rd_T27 l1 x5_1).f0)) || (!(((rd_T27 l0 x5_1).f1) == ((rd_T27 l1 x5_1).f1)) || (!(((rd_T27 l0 x5_1).f2) == ((rd_T27 l1 x5_1).f2))))) = true
              · rw [if_pos c7] at H
                have c7b0 : (!(((rd_T27 l0 x5_1).f0) == ((rd_T27 l1 x5_1).f0)) || (!(((rd_T27 l0 x5_1).f1) == ((rd_T27 l1 x5_1).f1)) || (!(((rd_T27 l0 x5_1).f2) == ((rd_T27 l1 x5_1).f2))))) = true := c7
                clear c7
                obtain rfl := Option.some.inj H
                have p139 : 0 ≤ (x5_1 : Int) := of_decide_eq_true (by first | (with_reducible assumption) | assumption)
                have q139 : x5_1 < (l0.length : Int) := of_decide_eq_true (by first | (with_reducible assumption) | assumption)
                obtain ⟨ad139, e139, hx139_0, hx139_1, hx139_2⟩ := at_T27 HR0.out x5_1 p139 q139
                cases e139
                replace p139 := eq_true p139
                replace q139 := eq_true q139
                have p140 : 0 ≤ (x5_1 : Int) := of_decide_eq_true (by first | (with_reducible assumption) | assumption)
                have q140 : x5_1 < (l1.length : Int) := of_decide_eq_true (by first | (with_reducible assumption) | assumption)
                obtain ⟨ad140, e140, hx140_0, hx140_1, hx140_2⟩ := at_T27 HR1.out x5_1 p140 q140
                cases e140
                replace p140 := eq_true p140
                replace q140 := eq_true q140
                go_wp2
                repeat (go_quiet (fail); try go_wp2)
                go_ret
                exact ⟨by first | rfl | (simp; done) | (simp [*]; done) | (simp [wrap64]; done), by repeat (first | exact Drawn0.refl _ | apply Drawn0.step)⟩
              · rw [if_neg c7] at H
                have c7b0 : (!(((rd_T27 l0 x5_1).f0) == ((rd_T27 l1 x5_1).f0)) || (!(((rd_T27 l0 x5_1).f1) == ((rd_T27 l1 x5_1).f1)) || (!(((rd_T27 l0 x5_1).f2) == ((rd_T27 l1 x5_1).f2))))) = false := by simpa using c7
                clear c7
                have H' := Aside0.mk H
                clear H
                have p139 : 0 ≤ (x5_1 : Int) := of_decide_eq_true (by first | (with_reducible assumption) | assumption)
                have q139 : x5_1 < (l0.length : Int) := of_decide_eq_true (by first | (with_reducible assumption) | assumption)
                obtain ⟨ad139, e139, hx139_0, hx139_1, hx139_2⟩ := at_T27 HR0.out x5_1 p139 q139
                cases e139
                replace p139 := eq_true p139
                replace q139 := eq_true q139
                have p140 : 0 ≤ (x5_1 : Int) := of_decide_eq_true (by first | (with_reducible assumption) | assumption)
                have q140 : x5_1 < (l1.length : Int) := of_decide_eq_true (by first | (with_reducible assumption) | assumption)
                obtain ⟨ad140, e140, hx140_0, hx140_1, hx140_2⟩ := at_T27 HR1.out x5_1 p140 q140
                cases e140
                replace p140 := eq_true p140
                replace q140 := eq_true q140
                go_wp2
                repeat (go_quiet (fail); try go_wp2)
                go_roundg k1
                case measure => have := HK1.out; omega
                case rel => exact ⟨(wrap64 (x5_1 + 1)), (by first | rfl | (simp; done) | (simp [*]; done) | (simp [wrap64]; done)), H', ⟨by have := HK1.out; omega⟩, by repeat (first | exact Drawn0.refl _ | apply Drawn0.step)⟩
            · rw [if_neg c6] at H
              exact absurd H (by simp)
          · rw [if_neg c5] at H
            exact absurd H (by simp)
        · rw [if_neg c4] at H
          have c4b0 : decide (x5_1 < (l0.length : Int)) = false := decide_eq_false c4
          clear c4
          obtain rfl := Option.some.inj H
          go_wp2
          repeat (go_quiet (fail); try go_wp2)
          go_ret
          exact ⟨by first | rfl | (simp; done) | (simp [*]; done) | (simp [wrap64]; done), by repeat (first | exact Drawn0.refl _ | apply Drawn0.step)⟩
  · rw [if_neg c3] at H
    have c3b0 : ((l0.length : Int) == (l1.length : Int)) = false := beq_eq_false_iff_ne.mpr c3
    have c3b1 : ((l0.length : Int) != (l1.length : Int)) = true := bne_iff_ne.mpr c3
    have c3b2 : (l0.length == l1.length) = false := by first | simpa using c3 | (simp at c3 ⊢; omega)
    obtain rfl := Option.some.inj H
    go_enter Tryd.func13, Tryd.ntmps13
    go_wp2
    repeat (go_quiet (fail); try go_wp2)
    go_ret
    exact ⟨by first | rfl | (simp; done) | (simp [*]; done) | (simp [wrap64]; done), by repeat (first | exact Drawn0.refl _ | apply Drawn0.step)⟩

/-! ### targumref1_IsScalar: function 38 -/
def targumref1_IsScalar.f (a0 : Int) : Option (Bool) := if a0 ≥ 0 then (if a0 ≤ 1114111 then (if a0 < 55296 then (some true) else (some (decide (a0 > 57343)))) else (some false)) else (some false)
set_option maxHeartbeats 8000000 in
set_option maxRecDepth 100000 in
theorem targumref1_IsScalar.calls (a0 : Int) (r : Bool) (w : World) (h : targumref1_IsScalar.f a0 = some r) :
    Calls Tryd.prog 38 #[.int .i64 a0] w fun e w' => e = .returned (.bool r) ∧ Drawn0 w w' := by
  have H : (if a0 ≥ 0 then (if a0 ≤ 1114111 then (if a0 < 55296 then (some true) else (some (decide (a0 > 57343)))) else (some false)) else (some false)) = some r := h
  clear h
  by_cases c2 : a0 ≥ 0
  · rw [if_pos c2] at H
    have c2b0 : decide (0 ≤ a0) = true := decide_eq_true c2
    clear c2
    by_cases c3 : a0 ≤ 1114111
    · rw [if_pos c3] at H
      have c3b0 : decide (a0 ≤ 1114111) = true := decide_eq_true c3
      clear c3
      by_cases c4 : a0 < 55296
      · rw [if_pos c4] at H
        have c4b0 : decide (a0 < 55296) = true := decide_eq_true c4
        clear c4
        obtain rfl := Option.some.inj H
        go_enter Tryd.func38, Tryd.ntmps38
        go_wp2
        go_ret
        exact ⟨by first | rfl | (simp; done) | (simp [*]; done) | (simp [wrap64]; done), by repeat (first | exact Drawn0.refl _ | apply Drawn0.step)⟩
      · rw [if_neg c4] at H
        have c4b0 : decide (a0 < 55296) = false := decide_eq_false c4
        clear c4
        obtain rfl := Option.some.inj H
        go_enter Tryd.func38, Tryd.ntmps38
        go_wp2
        go_ret
        exact ⟨by first | rfl | (simp; done) | (simp [*]; done) | (simp [wrap64]; done), by repeat (first | exact Drawn0.refl _ | apply Drawn0.step)⟩
    · rw [if_neg c3] at H
      have c3b0 : decide (a0 ≤ 1114111) = false := decide_eq_false c3
      clear c3
      obtain rfl := Option.some.inj H
      go_enter Tryd.func38, Tryd.ntmps38
      go_wp2
      go_ret
      exact ⟨by first | rfl | (simp; done) | (simp [*]; done) | (simp [wrap64]; done), by repeat (first | exact Drawn0.refl _ | apply Drawn0.step)⟩
  · rw [if_neg c2] at H
    have c2b0 : decide (0 ≤ a0) = false := decide_eq_false c2
    clear c2
    obtain rfl := Option.some.inj H
    go_enter Tryd.func38, Tryd.ntmps38
    go_wp2
    go_ret
    exact ⟨by first | rfl | (simp; done) | (simp [*]; done) | (simp [wrap64]; done), by repeat (first | exact Drawn0.refl _ | apply Drawn0.step)⟩

end Go.Proofs.YtkphlddgfmgogaaDoor.PJ
