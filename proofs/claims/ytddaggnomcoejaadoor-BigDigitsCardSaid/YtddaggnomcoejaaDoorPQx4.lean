/- Written by this session's own program (xprint, made over the kit's print): Lean functions with the same answers as the Go functions, and the proofs of that. Not trusted: Lean checks it. -/
import Derived.Test.YtddaggnomcoejaaDoorPQx0
import Derived.Test.YtddaggnomcoejaaDoorPQx1
import Derived.Test.YtddaggnomcoejaaDoorPQx2
import Derived.Test.YtddaggnomcoejaaDoorPQx3
namespace Go.Proofs.YtddaggnomcoejaaDoor.PQ
open Go.RowKit Go.Proofs.YtddaggnomcoejaaDoorW.PrintWords Go.Proofs.YtddaggnomcoejaaDoorW.PrintLast Go.Proofs.YtddaggnomcoejaaDoorW.PrintMore
attribute [local go_sem] max2_int min2_int max_two min_two max_three min_three max_four min_four   -- for this text's walks alone
set_option linter.unusedVariables false
set_option linter.unusedSimpArgs false

/-! ### targumlaw4_BigDigits: function 4 -/
mutual
def targumlaw4_BigDigits.j0 : Nat → ByteArray → Bool → Option (Bool)
  | 0, _, _ => none
  | k + 1, x0, x17 => if x17 = true then (some true) else ((targumlaw4_digits.f k x0).bind fun t155 => (targumlaw4_BigDigits.l0 k t155 (⟨#[48]⟩ : ByteArray) (⟨#[48]⟩ : ByteArray) (⟨#[]⟩ : ByteArray) 0))
def targumlaw4_BigDigits.l0 : Nat → ByteArray → ByteArray → ByteArray → ByteArray → Int → Option (Bool)
  | 0, _, _, _, _, _ => none
  | k + 1, x3, x4, x5, x6, x7 => if x7 < (x3.size : Int) then (if 0 ≤ x7 then ((big_MulAdd.f k x4 10 (((bt x3 x7) - 48) % 256)).bind fun t156 => ((big_MulAdd.f k x5 2 ((((bt x3 x7) - 48) % 256) % 2)).bind fun t157 => ((some (([48 + ((((bt x3 x7) - 48) % 256) % 2)] : List Int) : List Int)).bind fun y158 => (if x6.size + (strOfNums y158).size ≤ 9223372036854775807 then (targumlaw4_BigDigits.l0 k x3 t156 t157 (x6 ++ (strOfNums y158)) (wrap64 (x7 + 1))) else (none))))) else (none)) else ((big_Norm.f k false x3).bind fun t161 => (if x4.toList = t161.toList then ((big_Base.f k x6 2).bind fun t162 => (if x5.toList = t162.toList then ((big_Good.f k x4).bind fun t163 => (if t163 = true then ((big_Good.f k x5).bind fun t164 => (some t164)) else (some false))) else (some false))) else (some false)))
end
def targumlaw4_BigDigits.f (k : Nat) (a0 : ByteArray) : Option (Bool) := (targumlaw4_known.f k).bind fun t154 => (if t154 = true then (if (a0.size : Int) < 1 then (targumlaw4_BigDigits.j0 k a0 true) else (targumlaw4_BigDigits.j0 k a0 (decide ((a0.size : Int) > 60)))) else (some false))
theorem targumlaw4_BigDigits.mono_l : ∀ k, (∀ y0 y1, LeO (targumlaw4_BigDigits.j0 k y0 y1) (targumlaw4_BigDigits.j0 (k + 1) y0 y1)) ∧ (∀ y0 y1 y2 y3 y4, LeO (targumlaw4_BigDigits.l0 k y0 y1 y2 y3 y4) (targumlaw4_BigDigits.l0 (k + 1) y0 y1 y2 y3 y4))
  | 0 => ⟨fun _ _ r h => by simp [targumlaw4_BigDigits.j0] at h, fun _ _ _ _ _ r h => by simp [targumlaw4_BigDigits.l0] at h⟩
  | k + 1 => by
    obtain ⟨ih0, ih1⟩ := targumlaw4_BigDigits.mono_l k
    refine ⟨?_, ?_⟩
    · intro y0 y1
      unfold targumlaw4_BigDigits.j0
      repeat' first
      | (with_reducible exact ih0 _ _)
      | (with_reducible exact ih1 _ _ _ _ _)
      | (with_reducible exact big_Base.mono _ _ _)
      | (with_reducible exact big_Good.mono _ _)
      | (with_reducible exact big_MulAdd.mono _ _ _ _)
      | (with_reducible exact big_Norm.mono _ _ _)
      | (with_reducible exact targumlaw4_digits.mono _ _)
      | (with_reducible exact targumlaw4_known.mono _)
      | (with_reducible exact LeO.refl _)
      | (with_reducible exact LeO.none _)
      | (with_reducible refine LeO.ite ?_ ?_)
      | (with_reducible refine LeO.bind ?_ (fun _ => ?_))
      | exact ih0 _ _
      | exact ih1 _ _ _ _ _
      | exact big_Base.mono _ _ _
      | exact big_Good.mono _ _
      | exact big_MulAdd.mono _ _ _ _
      | exact big_Norm.mono _ _ _
      | exact targumlaw4_digits.mono _ _
      | exact targumlaw4_known.mono _
      | exact LeO.none _
      | refine LeO.ite ?_ ?_
      | refine LeO.bind ?_ (fun _ => ?_)
    · intro y0 y1 y2 y3 y4
      unfold targumlaw4_BigDigits.l0
      repeat' first
      | (with_reducible exact ih0 _ _)
      | (with_reducible exact ih1 _ _ _ _ _)
      | (with_reducible exact big_Base.mono _ _ _)
      | (with_reducible exact big_Good.mono _ _)
      | (with_reducible exact big_MulAdd.mono _ _ _ _)
      | (with_reducible exact big_Norm.mono _ _ _)
      | (with_reducible exact targumlaw4_digits.mono _ _)
      | (with_reducible exact targumlaw4_known.mono _)
      | (with_reducible exact LeO.refl _)
      | (with_reducible exact LeO.none _)
      | (with_reducible refine LeO.ite ?_ ?_)
      | (with_reducible refine LeO.bind ?_ (fun _ => ?_))
      | exact ih0 _ _
      | exact ih1 _ _ _ _ _
      | exact big_Base.mono _ _ _
      | exact big_Good.mono _ _
      | exact big_MulAdd.mono _ _ _ _
      | exact big_Norm.mono _ _ _
      | exact targumlaw4_digits.mono _ _
      | exact targumlaw4_known.mono _
      | exact LeO.none _
      | refine LeO.ite ?_ ?_
      | refine LeO.bind ?_ (fun _ => ?_)
theorem targumlaw4_BigDigits.mono : ∀ a0 k, LeO (targumlaw4_BigDigits.f k a0) (targumlaw4_BigDigits.f (k + 1) a0) := by
  intro a0 k
  obtain ⟨ih0, ih1⟩ := targumlaw4_BigDigits.mono_l k
  unfold targumlaw4_BigDigits.f
  repeat' first
      | (with_reducible exact ih0 _ _)
      | (with_reducible exact ih1 _ _ _ _ _)
      | (with_reducible exact big_Base.mono _ _ _)
      | (with_reducible exact big_Good.mono _ _)
      | (with_reducible exact big_MulAdd.mono _ _ _ _)
      | (with_reducible exact big_Norm.mono _ _ _)
      | (with_reducible exact targumlaw4_digits.mono _ _)
      | (with_reducible exact targumlaw4_known.mono _)
      | (with_reducible exact LeO.refl _)
      | (with_reducible exact LeO.none _)
      | (with_reducible refine LeO.ite ?_ ?_)
      | (with_reducible refine LeO.bind ?_ (fun _ => ?_))
      | exact ih0 _ _
      | exact ih1 _ _ _ _ _
      | exact big_Base.mono _ _ _
      | exact big_Good.mono _ _
      | exact big_MulAdd.mono _ _ _ _
      | exact big_Norm.mono _ _ _
      | exact targumlaw4_digits.mono _ _
      | exact targumlaw4_known.mono _
      | exact LeO.none _
      | refine LeO.ite ?_ ?_
      | refine LeO.bind ?_ (fun _ => ?_)
set_option maxHeartbeats 8000000 in
set_option maxRecDepth 100000 in
theorem targumlaw4_BigDigits.calls (k : Nat) (a0 : ByteArray) (r : Bool) (w : World) (hG : Go.Proofs.YtddaggnomcoejaaDoor.Room.PowTab w) (h : targumlaw4_BigDigits.f k a0 = some r) :
    Calls Tryd.prog 4 #[.string a0] w fun e w' => e = .returned (.bool r) ∧ Below w.heap.size w w' := by
  have HG := Aside0.mk hG
  clear hG
  have HB := Aside0.mk (Below.refl w.heap.size w)
  have H : ((targumlaw4_known.f k).bind fun t154 => (if t154 = true then (if (a0.size : Int) < 1 then (targumlaw4_BigDigits.j0 k a0 true) else (targumlaw4_BigDigits.j0 k a0 (decide ((a0.size : Int) > 60)))) else (some false))) = some r := h
  clear h
  replace H := Option.bind_eq_some_iff.mp H
  obtain ⟨t154, A20, H⟩ := H
  replace H : (if t154 = true then (if (a0.size : Int) < 1 then (targumlaw4_BigDigits.j0 k a0 true) else (targumlaw4_BigDigits.j0 k a0 (decide ((a0.size : Int) > 60)))) else (some false)) = some r := H
  have A2 := Aside0.mk A20
  clear A20
  by_cases c3 : t154 = true
  · subst c3
    have H1 : (if (a0.size : Int) < 1 then (targumlaw4_BigDigits.j0 k a0 true) else (targumlaw4_BigDigits.j0 k a0 (decide ((a0.size : Int) > 60)))) = some r := by rw [if_pos rfl] at H; exact H
    clear H
    have H := H1
    clear H1
    have HC4 := Aside0.mk H
    clear H
    go_enter Tryd.func4, Tryd.ntmps4
    go_upto_region 3 with (first | ((with_reducible refine gate_callee (f := 14) rfl ?_); refine goesL_ (some 8) rfl rfl Tryd.func14 (by kernel_rfl) rfl #[] rfl (by (try simp only [List.map_toArray, List.map_cons, List.map_nil]); first | done | rfl | (simp only [List.length_drop, List.length_take]; rfl)) ?_; (with_reducible refine (targumlaw4_known.calls k  true _ ?side1 A2.out).mono ?_); (case side1 => exact Go.Proofs.YtddaggnomcoejaaDoor.Room.PowTab_below HG.out (by repeat (first | (with_reducible first | exact HB.out | apply below_alloc | apply pw_below_drewN | apply below_drew1) | exact HB.out))); rintro e w5 ⟨rfl, hb⟩; refine ⟨_, rfl, ?_⟩; have n0_ := Aside0.mk (below_step (by repeat (first | (with_reducible first | exact HB.out | apply below_alloc | apply pw_below_drewN | apply below_drew1) | exact HB.out)) hb); clear HB; have HB := n0_; clear n0_; (try clear hb); (try clear hb2); (try clear hk); (try clear hi)))
    (try simp only [Act.put, List.setIfInBounds_toArray, List.set_cons_zero, List.set_cons_succ])
    go_cut [17] (fun v17 wc => ∃ (kq : Nat) (x17_3 : Bool), v17 = .bool x17_3 ∧ Aside0 (targumlaw4_BigDigits.j0 kq a0 x17_3 = some r) ∧ Aside0 (kq ≤ k) ∧ Aside0 (Below w.heap.size w wc))
    case first =>
      have H := HC4.out
      clear HC4
      by_cases c6 : (a0.size : Int) < 1
      · rw [if_pos c6] at H
        have c6b0 : decide ((a0.size : Int) < 1) = true := decide_eq_true c6
        have c6b1 : decide (a0.size < 1) = true := decide_eq_true (by omega)
        clear c6
        (first | rw [c6b0] | (simp only [i64_w, i32_w]; rw [c6b0]) | skip)
        have H' := Aside0.mk H
        clear H
        go_wp2
        go_meet
        case rel => exact ⟨_, (true), (by first | rfl | (simp; done) | (simp [*]; done) | (simp [wrap64]; done)), H', ⟨by first | omega | exact Nat.le_refl _⟩, ⟨by repeat (first | (with_reducible first | exact HB.out | apply below_alloc | apply pw_below_drewN | apply below_drew1) | exact HB.out)⟩⟩
      · rw [if_neg c6] at H
        have c6b0 : decide ((a0.size : Int) < 1) = false := decide_eq_false c6
        have c6b1 : decide (a0.size < 1) = false := decide_eq_false (by omega)
        clear c6
        (first | rw [c6b0] | (simp only [i64_w, i32_w]; rw [c6b0]) | skip)
        have H' := Aside0.mk H
        clear H
        go_wp2
        go_meet
        case rel => exact ⟨_, (decide ((a0.size : Int) > 60)), (by first | rfl | (simp; done) | (simp [*]; done) | (simp [wrap64]; done)), H', ⟨by first | omega | exact Nat.le_refl _⟩, ⟨by repeat (first | (with_reducible first | exact HB.out | apply below_alloc | apply pw_below_drewN | apply below_drew1) | exact HB.out)⟩⟩
    case rest =>
      clear HC4
      try clear c1
      try clear p2
      try clear c3
      try clear c4
      try clear c6
      try clear c6b0
      try clear c6b1
      obtain ⟨kq, x17_3, rfl, HA, HJ3, HB⟩ := hcut
      cases kq with
      | zero => exact absurd HA.out (by simp [targumlaw4_BigDigits.j0])
      | succ kj3 =>
        have H := HA.out
        clear HA
        simp only [targumlaw4_BigDigits.j0] at H
        by_cases c7 : x17_3 = true
        · subst c7
          have H1 : (some true) = some r := by rw [if_pos rfl] at H; exact H
          clear H
          have H := H1
          clear H1
          obtain rfl := Option.some.inj H
          go_wp2
          go_ret
          exact ⟨by first | rfl | (simp [errW_none, errW_some] <;> rfl) | (simp [*, errW_none, errW_some] <;> rfl), by repeat (first | (with_reducible first | exact HB.out | apply below_alloc | apply pw_below_drewN | apply below_drew1) | exact HB.out)⟩
        · replace c7 := Bool.eq_false_iff.mpr c7
          subst c7
          have H1 : ((targumlaw4_digits.f kj3 a0).bind fun t155 => (targumlaw4_BigDigits.l0 kj3 t155 (⟨#[48]⟩ : ByteArray) (⟨#[48]⟩ : ByteArray) (⟨#[]⟩ : ByteArray) 0)) = some r := by rw [if_neg (show ¬ (false = true) by decide)] at H; exact H
          clear H
          have H := H1
          clear H1
          replace H := Option.bind_eq_some_iff.mp H
          obtain ⟨t155, A80, H⟩ := H
          replace H : (targumlaw4_BigDigits.l0 kj3 t155 (⟨#[48]⟩ : ByteArray) (⟨#[48]⟩ : ByteArray) (⟨#[]⟩ : ByteArray) 0) = some r := H
          have A8 := Aside0.mk A80
          clear A80
          have H' := Aside0.mk H
          clear H
          go_wp2_with (first | ((with_reducible refine gate_callee (f := 27) rfl ?_); refine goesL_ (some 19) rfl rfl Tryd.func27 (by kernel_rfl) rfl #[.string a0] rfl (by (try simp only [List.map_toArray, List.map_cons, List.map_nil]); first | done | rfl | (simp only [List.length_drop, List.length_take]; rfl)) ?_; (with_reducible refine (targumlaw4_digits.calls kj3 a0 t155 _ A8.out).mono ?_); rintro e w9 ⟨rfl, hb⟩; refine ⟨_, rfl, ?_⟩; have n0_ := Aside0.mk (below_step (by repeat (first | (with_reducible first | exact HB.out | apply below_alloc | apply pw_below_drewN | apply below_drew1) | exact HB.out)) hb); clear HB; have HB := n0_; clear n0_; (try clear hb); (try clear hb2); (try clear hk); (try clear hi)))
          go_loopg [4, 5, 6, 7] kj3 (fun kq v4 v5 v6 v7 w' => ∃ (x4_2 : ByteArray) (x5_2 : ByteArray) (x6_2 : ByteArray) (x7_2 : Int), v4 = .string x4_2 ∧ v5 = .string x5_2 ∧ v6 = .string x6_2 ∧ v7 = .int .i64 x7_2 ∧ Aside0 (targumlaw4_BigDigits.l0 kq t155 x4_2 x5_2 x6_2 x7_2 = some r) ∧ Aside0 (kq ≤ kj3) ∧ Aside0 (Below w.heap.size w w'))
          case atStart => exact ⟨((⟨#[48]⟩ : ByteArray)), ((⟨#[48]⟩ : ByteArray)), ((⟨#[]⟩ : ByteArray)), (0), (by first | rfl | (simp; done) | (simp [*]; done) | (simp [wrap64]; done)), (by first | rfl | (simp; done) | (simp [*]; done) | (simp [wrap64]; done)), (by first | rfl | (simp; done) | (simp [*]; done) | (simp [wrap64]; done)), (by first | rfl | (simp; done) | (simp [*]; done) | (simp [wrap64]; done)), H', ⟨Nat.le_refl _⟩, ⟨by repeat (first | (with_reducible first | exact HB.out | apply below_alloc | apply pw_below_drewN | apply below_drew1) | exact HB.out)⟩⟩
          case round =>
            clear H'
            try clear c1
            try clear c2
            try clear p2
            try clear c3
            try clear c4
            try clear c6
            try clear c6b0
            try clear c6b1
            try clear c7
            try clear p2
            obtain ⟨x4_2, x5_2, x6_2, x7_2, rfl, rfl, rfl, rfl, HA, HK2, HB⟩ := hrel
            cases gk with
            | zero => exact absurd HA.out (by simp [targumlaw4_BigDigits.l0])
            | succ k2 =>
              have H := HA.out
              clear HA
              simp only [targumlaw4_BigDigits.l0] at H
              by_cases c10 : x7_2 < (t155.size : Int)
              · rw [if_pos c10] at H
                have c10b0 : decide (x7_2 < (t155.size : Int)) = true := decide_eq_true c10
                clear c10
                by_cases c11 : 0 ≤ x7_2
                · rw [if_pos c11] at H
                  have c11b0 : decide (0 ≤ x7_2) = true := decide_eq_true c11
                  clear c11
                  replace H := Option.bind_eq_some_iff.mp H
                  obtain ⟨t156, A130, H⟩ := H
                  replace H : ((big_MulAdd.f k2 x5_2 2 ((((bt t155 x7_2) - 48) % 256) % 2)).bind fun t157 => ((some (([48 + ((((bt t155 x7_2) - 48) % 256) % 2)] : List Int) : List Int)).bind fun y158 => (if x6_2.size + (strOfNums y158).size ≤ 9223372036854775807 then (targumlaw4_BigDigits.l0 k2 t155 t156 t157 (x6_2 ++ (strOfNums y158)) (wrap64 (x7_2 + 1))) else (none)))) = some r := H
                  have A13 := Aside0.mk A130
                  clear A130
                  replace H := Option.bind_eq_some_iff.mp H
                  obtain ⟨t157, A150, H⟩ := H
                  replace H : ((some (([48 + ((((bt t155 x7_2) - 48) % 256) % 2)] : List Int) : List Int)).bind fun y158 => (if x6_2.size + (strOfNums y158).size ≤ 9223372036854775807 then (targumlaw4_BigDigits.l0 k2 t155 t156 t157 (x6_2 ++ (strOfNums y158)) (wrap64 (x7_2 + 1))) else (none))) = some r := H
                  have A15 := Aside0.mk A150
                  clear A150
                  obtain ⟨y158, hy158⟩ : ∃ y_ : List Int, y_ = (([48 + ((((bt t155 x7_2) - 48) % 256) % 2)] : List Int)) := ⟨_, rfl⟩
                  replace H : (if x6_2.size + (strOfNums y158).size ≤ 9223372036854775807 then (targumlaw4_BigDigits.l0 k2 t155 t156 t157 (x6_2 ++ (strOfNums y158)) (wrap64 (x7_2 + 1))) else (none)) = some r := by first | (rw [hy158]; with_reducible exact H) | (have H2_ := (Option.bind_some _ _).symm.trans H; rw [hy158]; with_reducible exact H2_) | (have H2_ := (Option.bind_some _ _).symm.trans H; with_reducible exact H2_) | with_reducible exact H | (rw [hy158]; exact H) | exact H
                  have Ny158 := Aside0.mk hy158
                  clear hy158
                  by_cases c17 : x6_2.size + (strOfNums y158).size ≤ 9223372036854775807
                  · rw [if_pos c17] at H
                    have c17b0 := eq_true c17
                    have c17b1 : decide (x6_2.size + (strOfNums y158).size ≤ 9223372036854775807) = true := decide_eq_true c17
                    try have c17b2 : (9223372036854775807 < x6_2.size + (strOfNums y158).size) = False := eq_false (Nat.not_lt.2 c17)
                    have H' := Aside0.mk H
                    clear H
                    have p12 : 0 ≤ (x7_2 : Int) := of_decide_eq_true (by first | (with_reducible assumption) | assumption)
                    have q12 : x7_2 < (t155.size : Int) := of_decide_eq_true (by first | (with_reducible assumption) | assumption)
                    have hx12 := bt_at t155 x7_2
                    replace p12 := eq_true p12
                    replace q12 := eq_true q12
                    go_wp2_with (first | ((with_reducible refine gate_callee (f := 21) rfl ?_); refine goesL_ (some 32) rfl rfl Tryd.func21 (by kernel_rfl) rfl #[.string x4_2, .int .i64 10, .int .i64 (((bt t155 x7_2) - 48) % 256)] rfl (by (try simp only [List.map_toArray, List.map_cons, List.map_nil]); first | done | rfl | (simp only [List.length_drop, List.length_take]; rfl)) ?_; (with_reducible refine (big_MulAdd.calls k2 x4_2 10 (((bt t155 x7_2) - 48) % 256) t156 _ ?side1 A13.out).mono ?_); (case side1 => exact Go.Proofs.YtddaggnomcoejaaDoor.Room.PowTab_below HG.out (by repeat (first | (with_reducible first | exact HB.out | apply below_alloc | apply pw_below_drewN | apply below_drew1) | exact HB.out))); rintro e w18 ⟨rfl, hb⟩; refine ⟨_, rfl, ?_⟩; have n0_ := Aside0.mk (below_step (by repeat (first | (with_reducible first | exact HB.out | apply below_alloc | apply pw_below_drewN | apply below_drew1) | exact HB.out)) hb); clear HB; have HB := n0_; clear n0_; (try clear hb); (try clear hb2); (try clear hk); (try clear hi); have p14 : 0 ≤ (x7_2 : Int) := of_decide_eq_true (by first | (with_reducible assumption) | assumption); have q14 : x7_2 < (t155.size : Int) := of_decide_eq_true (by first | (with_reducible assumption) | assumption); have hx14 := bt_at t155 x7_2; replace p14 := eq_true p14; replace q14 := eq_true q14) | ((with_reducible refine gate_callee (f := 21) rfl ?_); refine goesL_ (some 40) rfl rfl Tryd.func21 (by kernel_rfl) rfl #[.string x5_2, .int .i64 2, .int .i64 ((((bt t155 x7_2) - 48) % 256) % 2)] rfl (by (try simp only [List.map_toArray, List.map_cons, List.map_nil]); first | done | rfl | (simp only [List.length_drop, List.length_take]; rfl)) ?_; (with_reducible refine (big_MulAdd.calls k2 x5_2 2 ((((bt t155 x7_2) - 48) % 256) % 2) t157 _ ?side1 A15.out).mono ?_); (case side1 => exact Go.Proofs.YtddaggnomcoejaaDoor.Room.PowTab_below HG.out (by repeat (first | (with_reducible first | exact HB.out | apply below_alloc | apply pw_below_drewN | apply below_drew1) | exact HB.out))); rintro e w19 ⟨rfl, hb⟩; refine ⟨_, rfl, ?_⟩; have n0_ := Aside0.mk (below_step (by repeat (first | (with_reducible first | exact HB.out | apply below_alloc | apply pw_below_drewN | apply below_drew1) | exact HB.out)) hb); clear HB; have HB := n0_; clear n0_; (try clear hb); (try clear hb2); (try clear hk); (try clear hi); have p16 : 0 ≤ (x7_2 : Int) := of_decide_eq_true (by first | (with_reducible assumption) | assumption); have q16 : x7_2 < (t155.size : Int) := of_decide_eq_true (by first | (with_reducible assumption) | assumption); have hx16 := bt_at t155 x7_2; replace p16 := eq_true p16; replace q16 := eq_true q16) | ((with_reducible refine gate_dst (N := 48) rfl ?_); (try (refine gate_guard (by rfl) ?_; dsimp only)); refine Kd.R_lit (Kd.int .u8) _ 5 ?hg (N := 48) ?hd (xs := ([48 + ((((bt t155 x7_2) - 48) % 256) % 2)] : List Int)) (inner := [.int .u8 (48 + ((((bt t155 x7_2) - 48) % 256) % 2))]) (ok := fun _ => True) (okp := fun _ => True) ?hr ?hp (fun _ hk => hk) trivial (Below.refl _ _) (Nat.le_refl _) (by simp) ?_; (case hd => rfl); (case hg => rfl); (case hr => first | (go_simp; done) | (go_simp; rfl)); (case hp => exact (Reps.one (show Kd.M (Kd.int .u8) _ _ _ (48 + ((((bt t155 x7_2) - 48) % 256) % 2)) [.int .u8 (48 + ((((bt t155 x7_2) - 48) % 256) % 2))] from rfl) (Reps.none _ _))); intro v159 w20 ho21 hb hg_ hnew_; clear hg_ hnew_; (first | rw [← Ny158.out] at ho21 | (simp only [Int.reduceToNat] at ho21; rw [← Ny158.out] at ho21)); have n0_ := Aside0.mk (Kd.R_lower ho21 (below_size (by repeat (first | (with_reducible first | exact HB.out | apply below_alloc | apply pw_below_drewN | apply below_drew1) | exact HB.out)))); have n1_ := Aside0.mk (below_step (by repeat (first | (with_reducible first | exact HB.out | apply below_alloc | apply pw_below_drewN | apply below_drew1) | exact HB.out)) hb); clear HB; have HO160 := n0_; have HB := n1_; clear n0_ n1_; clear hb ho21; have hcv22 := own_string (P := Tryd.prog) Tryd.underlying31 Tryd.underlying5 Tryd.underlying9 (Kd.own_of_R HO160.out)))
                    go_roundg k2
                    case measure => have := HJ3.out; have := HK2.out; omega
                    case rel => exact ⟨(t156), (t157), (x6_2 ++ (strOfNums y158)), (wrap64 (x7_2 + 1)), (by first | rfl | (simp; done) | (simp [*]; done) | (simp [wrap64]; done)), (by first | rfl | (simp; done) | (simp [*]; done) | (simp [wrap64]; done)), (by first | rfl | (simp; done) | (simp [*]; done) | (simp [wrap64]; done)), (by first | rfl | (simp; done) | (simp [*]; done) | (simp [wrap64]; done)), H', ⟨by have := HJ3.out; have := HK2.out; omega⟩, ⟨by repeat (first | (with_reducible first | exact HB.out | apply below_alloc | apply pw_below_drewN | apply below_drew1) | exact HB.out)⟩⟩
                  · rw [if_neg c17] at H
                    exact absurd H (by simp)
                · rw [if_neg c11] at H
                  exact absurd H (by simp)
              · rw [if_neg c10] at H
                have c10b0 : decide (x7_2 < (t155.size : Int)) = false := decide_eq_false c10
                clear c10
                replace H := Option.bind_eq_some_iff.mp H
                obtain ⟨t161, A230, H⟩ := H
                replace H : (if x4_2.toList = t161.toList then ((big_Base.f k2 x6_2 2).bind fun t162 => (if x5_2.toList = t162.toList then ((big_Good.f k2 x4_2).bind fun t163 => (if t163 = true then ((big_Good.f k2 x5_2).bind fun t164 => (some t164)) else (some false))) else (some false))) else (some false)) = some r := H
                have A23 := Aside0.mk A230
                clear A230
                by_cases c24 : x4_2.toList = t161.toList
                · rw [if_pos c24] at H
                  have c24b0 : (x4_2.toList == t161.toList) = true := beq_iff_eq.mpr c24
                  have c24b1 : (x4_2.toList != t161.toList) = false := bne_eq_false_iff_eq.mpr c24
                  clear c24
                  replace H := Option.bind_eq_some_iff.mp H
                  obtain ⟨t162, A250, H⟩ := H
                  replace H : (if x5_2.toList = t162.toList then ((big_Good.f k2 x4_2).bind fun t163 => (if t163 = true then ((big_Good.f k2 x5_2).bind fun t164 => (some t164)) else (some false))) else (some false)) = some r := H
                  have A25 := Aside0.mk A250
                  clear A250
                  by_cases c26 : x5_2.toList = t162.toList
                  · rw [if_pos c26] at H
                    have c26b0 : (x5_2.toList == t162.toList) = true := beq_iff_eq.mpr c26
                    have c26b1 : (x5_2.toList != t162.toList) = false := bne_eq_false_iff_eq.mpr c26
                    clear c26
                    replace H := Option.bind_eq_some_iff.mp H
                    obtain ⟨t163, A270, H⟩ := H
                    replace H : (if t163 = true then ((big_Good.f k2 x5_2).bind fun t164 => (some t164)) else (some false)) = some r := H
                    have A27 := Aside0.mk A270
                    clear A270
                    by_cases c28 : t163 = true
                    · subst c28
                      have H1 : ((big_Good.f k2 x5_2).bind fun t164 => (some t164)) = some r := by rw [if_pos rfl] at H; exact H
                      clear H
                      have H := H1
                      clear H1
                      replace H := Option.bind_eq_some_iff.mp H
                      obtain ⟨t164, A290, H⟩ := H
                      replace H : (some t164) = some r := H
                      have A29 := Aside0.mk A290
                      clear A290
                      obtain rfl := Option.some.inj H
                      go_wp2_with (first | ((with_reducible refine gate_callee (f := 18) rfl ?_); refine goesL_ (some 53) rfl rfl Tryd.func18 (by kernel_rfl) rfl #[.bool false, .string t155] rfl (by (try simp only [List.map_toArray, List.map_cons, List.map_nil]); first | done | rfl | (simp only [List.length_drop, List.length_take]; rfl)) ?_; (with_reducible refine (big_Norm.calls k2 false t155 t161 _ A23.out).mono ?_); rintro e w30 ⟨rfl, hb⟩; refine ⟨_, rfl, ?_⟩; have n0_ := Aside0.mk (below_step (by repeat (first | (with_reducible first | exact HB.out | apply below_alloc | apply pw_below_drewN | apply below_drew1) | exact HB.out)) hb); clear HB; have HB := n0_; clear n0_; (try clear hb); (try clear hb2); (try clear hk); (try clear hi)) | (go_at_call 19; (with_reducible refine (big_Base.calls k2 x6_2 2 t162 _ ?side1 A25.out).mono ?_); (case side1 => exact Go.Proofs.YtddaggnomcoejaaDoor.Room.PowTab_below HG.out (by repeat (first | (with_reducible first | exact HB.out | apply below_alloc | apply pw_below_drewN | apply below_drew1) | exact HB.out))); rintro e w31 ⟨rfl, hb⟩; have n0_ := Aside0.mk (below_step (by repeat (first | (with_reducible first | exact HB.out | apply below_alloc | apply pw_below_drewN | apply below_drew1) | exact HB.out)) hb); clear HB; have HB := n0_; clear n0_; (try clear hb); (try clear hb2); (try clear hk); (try clear hi)) | (go_at_call 16; (with_reducible refine (big_Good.calls k2 x4_2 true _ A27.out).mono ?_); rintro e w' ⟨rfl, ⟨nd, rfl⟩⟩) | (go_at_call 16; (with_reducible refine (big_Good.calls k2 x5_2 t164 _ A29.out).mono ?_); rintro e w' ⟨rfl, ⟨nd, rfl⟩⟩))
                      go_ret
                      exact ⟨by first | rfl | (simp [errW_none, errW_some] <;> rfl) | (simp [*, errW_none, errW_some] <;> rfl), by repeat (first | (with_reducible first | exact HB.out | apply below_alloc | apply pw_below_drewN | apply below_drew1) | exact HB.out)⟩
                    · replace c28 := Bool.eq_false_iff.mpr c28
                      subst c28
                      have H1 : (some false) = some r := by rw [if_neg (show ¬ (false = true) by decide)] at H; exact H
                      clear H
                      have H := H1
                      clear H1
                      obtain rfl := Option.some.inj H
                      go_wp2_with (first | ((with_reducible refine gate_callee (f := 18) rfl ?_); refine goesL_ (some 53) rfl rfl Tryd.func18 (by kernel_rfl) rfl #[.bool false, .string t155] rfl (by (try simp only [List.map_toArray, List.map_cons, List.map_nil]); first | done | rfl | (simp only [List.length_drop, List.length_take]; rfl)) ?_; (with_reducible refine (big_Norm.calls k2 false t155 t161 _ A23.out).mono ?_); rintro e w32 ⟨rfl, hb⟩; refine ⟨_, rfl, ?_⟩; have n0_ := Aside0.mk (below_step (by repeat (first | (with_reducible first | exact HB.out | apply below_alloc | apply pw_below_drewN | apply below_drew1) | exact HB.out)) hb); clear HB; have HB := n0_; clear n0_; (try clear hb); (try clear hb2); (try clear hk); (try clear hi)) | (go_at_call 19; (with_reducible refine (big_Base.calls k2 x6_2 2 t162 _ ?side1 A25.out).mono ?_); (case side1 => exact Go.Proofs.YtddaggnomcoejaaDoor.Room.PowTab_below HG.out (by repeat (first | (with_reducible first | exact HB.out | apply below_alloc | apply pw_below_drewN | apply below_drew1) | exact HB.out))); rintro e w33 ⟨rfl, hb⟩; have n0_ := Aside0.mk (below_step (by repeat (first | (with_reducible first | exact HB.out | apply below_alloc | apply pw_below_drewN | apply below_drew1) | exact HB.out)) hb); clear HB; have HB := n0_; clear n0_; (try clear hb); (try clear hb2); (try clear hk); (try clear hi)) | (go_at_call 16; (with_reducible refine (big_Good.calls k2 x4_2 false _ A27.out).mono ?_); rintro e w' ⟨rfl, ⟨nd, rfl⟩⟩))
                      go_ret
                      exact ⟨by first | rfl | (simp [errW_none, errW_some] <;> rfl) | (simp [*, errW_none, errW_some] <;> rfl), by repeat (first | (with_reducible first | exact HB.out | apply below_alloc | apply pw_below_drewN | apply below_drew1) | exact HB.out)⟩
                  · rw [if_neg c26] at H
                    have c26b0 : (x5_2.toList == t162.toList) = false := beq_eq_false_iff_ne.mpr c26
                    have c26b1 : (x5_2.toList != t162.toList) = true := bne_iff_ne.mpr c26
                    obtain rfl := Option.some.inj H
                    go_wp2_with (first | ((with_reducible refine gate_callee (f := 18) rfl ?_); refine goesL_ (some 53) rfl rfl Tryd.func18 (by kernel_rfl) rfl #[.bool false, .string t155] rfl (by (try simp only [List.map_toArray, List.map_cons, List.map_nil]); first | done | rfl | (simp only [List.length_drop, List.length_take]; rfl)) ?_; (with_reducible refine (big_Norm.calls k2 false t155 t161 _ A23.out).mono ?_); rintro e w34 ⟨rfl, hb⟩; refine ⟨_, rfl, ?_⟩; have n0_ := Aside0.mk (below_step (by repeat (first | (with_reducible first | exact HB.out | apply below_alloc | apply pw_below_drewN | apply below_drew1) | exact HB.out)) hb); clear HB; have HB := n0_; clear n0_; (try clear hb); (try clear hb2); (try clear hk); (try clear hi)) | (go_at_call 19; (with_reducible refine (big_Base.calls k2 x6_2 2 t162 _ ?side1 A25.out).mono ?_); (case side1 => exact Go.Proofs.YtddaggnomcoejaaDoor.Room.PowTab_below HG.out (by repeat (first | (with_reducible first | exact HB.out | apply below_alloc | apply pw_below_drewN | apply below_drew1) | exact HB.out))); rintro e w35 ⟨rfl, hb⟩; have n0_ := Aside0.mk (below_step (by repeat (first | (with_reducible first | exact HB.out | apply below_alloc | apply pw_below_drewN | apply below_drew1) | exact HB.out)) hb); clear HB; have HB := n0_; clear n0_; (try clear hb); (try clear hb2); (try clear hk); (try clear hi)))
                    go_ret
                    exact ⟨by first | rfl | (simp [errW_none, errW_some] <;> rfl) | (simp [*, errW_none, errW_some] <;> rfl), by repeat (first | (with_reducible first | exact HB.out | apply below_alloc | apply pw_below_drewN | apply below_drew1) | exact HB.out)⟩
                · rw [if_neg c24] at H
                  have c24b0 : (x4_2.toList == t161.toList) = false := beq_eq_false_iff_ne.mpr c24
                  have c24b1 : (x4_2.toList != t161.toList) = true := bne_iff_ne.mpr c24
                  obtain rfl := Option.some.inj H
                  go_wp2_with (first | ((with_reducible refine gate_callee (f := 18) rfl ?_); refine goesL_ (some 53) rfl rfl Tryd.func18 (by kernel_rfl) rfl #[.bool false, .string t155] rfl (by (try simp only [List.map_toArray, List.map_cons, List.map_nil]); first | done | rfl | (simp only [List.length_drop, List.length_take]; rfl)) ?_; (with_reducible refine (big_Norm.calls k2 false t155 t161 _ A23.out).mono ?_); rintro e w36 ⟨rfl, hb⟩; refine ⟨_, rfl, ?_⟩; have n0_ := Aside0.mk (below_step (by repeat (first | (with_reducible first | exact HB.out | apply below_alloc | apply pw_below_drewN | apply below_drew1) | exact HB.out)) hb); clear HB; have HB := n0_; clear n0_; (try clear hb); (try clear hb2); (try clear hk); (try clear hi)))
                  go_ret
                  exact ⟨by first | rfl | (simp [errW_none, errW_some] <;> rfl) | (simp [*, errW_none, errW_some] <;> rfl), by repeat (first | (with_reducible first | exact HB.out | apply below_alloc | apply pw_below_drewN | apply below_drew1) | exact HB.out)⟩
  · replace c3 := Bool.eq_false_iff.mpr c3
    subst c3
    have H1 : (some false) = some r := by rw [if_neg (show ¬ (false = true) by decide)] at H; exact H
    clear H
    have H := H1
    clear H1
    obtain rfl := Option.some.inj H
    go_enter Tryd.func4, Tryd.ntmps4
    go_wp2_with (first | ((with_reducible refine gate_callee (f := 14) rfl ?_); refine goesL_ (some 8) rfl rfl Tryd.func14 (by kernel_rfl) rfl #[] rfl (by (try simp only [List.map_toArray, List.map_cons, List.map_nil]); first | done | rfl | (simp only [List.length_drop, List.length_take]; rfl)) ?_; (with_reducible refine (targumlaw4_known.calls k  false _ ?side1 A2.out).mono ?_); (case side1 => exact Go.Proofs.YtddaggnomcoejaaDoor.Room.PowTab_below HG.out (by repeat (first | (with_reducible first | exact HB.out | apply below_alloc | apply pw_below_drewN | apply below_drew1) | exact HB.out))); rintro e w37 ⟨rfl, hb⟩; refine ⟨_, rfl, ?_⟩; have n0_ := Aside0.mk (below_step (by repeat (first | (with_reducible first | exact HB.out | apply below_alloc | apply pw_below_drewN | apply below_drew1) | exact HB.out)) hb); clear HB; have HB := n0_; clear n0_; (try clear hb); (try clear hb2); (try clear hk); (try clear hi)))
    go_ret
    exact ⟨by first | rfl | (simp [errW_none, errW_some] <;> rfl) | (simp [*, errW_none, errW_some] <;> rfl), by repeat (first | (with_reducible first | exact HB.out | apply below_alloc | apply pw_below_drewN | apply below_drew1) | exact HB.out)⟩

/-- THE ONE PURE STATEMENT of targumlaw4_BigDigits: yours. -/
def targumlaw4_BigDigits.Pure : Prop := ∀ (a0 : ByteArray), a0.size ≤ 140737488351232 → ∃ k, targumlaw4_BigDigits.f k a0 = some true
theorem targumlaw4_BigDigits.walk (P : targumlaw4_BigDigits.Pure) (a0 : ByteArray) (w : World) (w0 : a0.size ≤ 140737488351232) (hG : Go.Proofs.YtddaggnomcoejaaDoor.Room.PowTab w) :
    Calls Tryd.prog 4 #[.string a0] w fun e w' => e = .returned (.bool true) ∧ Below w.heap.size w w' := by
  obtain ⟨k, h⟩ := P a0 w0
  refine (targumlaw4_BigDigits.calls k a0 true w hG h).mono ?_
  rintro e w' ⟨rfl, hd⟩
  exact ⟨rfl, hd⟩

/-! ### targumlaw4_BigSums: function 5 -/
def targumlaw4_BigSums.j0 : Nat → ByteArray → Bool → Int → Int → Bool → Option (Bool)
  | 0, _, _, _, _, _ => none
  | k + 1, x0, x1, x2, x3, x21 => if x21 = true then (some true) else ((targumlaw4_digits.f k x0).bind fun t166 => ((big_Norm.f k x1 t166).bind fun t167 => ((big_Add.f k t167 (wrap64 (x2))).bind fun t168 => ((big_Add.f k t168 (wrap64 (-(wrap64 (x2))))).bind fun t169 => (if t169.toList = t167.toList then ((big_Add.f k t167 (wrap64 (x2))).bind fun t170 => ((big_Add.f k t170 (wrap64 (x3))).bind fun t171 => ((big_Add.f k t167 (wrap64 ((wrap64 (x2)) + (wrap64 (x3))))).bind fun t172 => (if t171.toList = t172.toList then ((big_Add.f k t167 0).bind fun t173 => (if t173.toList = t167.toList then ((big_Add.f k t167 1).bind fun t174 => ((big_Compare.f k t174 t167).bind fun t175 => (if t175 = 1 then ((big_Add.f k t167 (-1)).bind fun t176 => ((big_Compare.f k t167 t176).bind fun t177 => (if t177 = 1 then ((big_Add.f k t167 (wrap64 (x2))).bind fun t178 => ((big_Add.f k t167 (wrap64 (x3))).bind fun t179 => ((big_Compare.f k t178 t179).bind fun t180 => ((big_Add.f k (⟨#[48]⟩ : ByteArray) (wrap64 (x2))).bind fun t181 => ((big_Add.f k (⟨#[48]⟩ : ByteArray) (wrap64 (x3))).bind fun t182 => ((big_Compare.f k t181 t182).bind fun t183 => (some (t180 == t183)))))))) else (some false)))) else (some false)))) else (some false))) else (some false))))) else (some false))))))
def targumlaw4_BigSums.f (k : Nat) (a0 : ByteArray) (a1 : Bool) (a2 : Int) (a3 : Int) : Option (Bool) := (targumlaw4_known.f k).bind fun t165 => (if t165 = true then (if (a0.size : Int) < 1 then (targumlaw4_BigSums.j0 k a0 a1 a2 a3 true) else (targumlaw4_BigSums.j0 k a0 a1 a2 a3 (decide ((a0.size : Int) > 60)))) else (some false))
theorem targumlaw4_BigSums.mono_l : ∀ k, (∀ y0 y1 y2 y3 y4, LeO (targumlaw4_BigSums.j0 k y0 y1 y2 y3 y4) (targumlaw4_BigSums.j0 (k + 1) y0 y1 y2 y3 y4))
  | 0 => fun _ _ _ _ _ r h => by simp [targumlaw4_BigSums.j0] at h
  | k + 1 => by
    have ih0 := targumlaw4_BigSums.mono_l k
    · intro y0 y1 y2 y3 y4
      unfold targumlaw4_BigSums.j0
      repeat' first
      | (with_reducible exact ih0 _ _ _ _ _)
      | (with_reducible exact big_Add.mono _ _ _)
      | (with_reducible exact big_Compare.mono _ _ _)
      | (with_reducible exact big_Norm.mono _ _ _)
      | (with_reducible exact targumlaw4_digits.mono _ _)
      | (with_reducible exact targumlaw4_known.mono _)
      | (with_reducible exact LeO.refl _)
      | (with_reducible exact LeO.none _)
      | (with_reducible refine LeO.ite ?_ ?_)
      | (with_reducible refine LeO.bind ?_ (fun _ => ?_))
      | exact ih0 _ _ _ _ _
      | exact big_Add.mono _ _ _
      | exact big_Compare.mono _ _ _
      | exact big_Norm.mono _ _ _
      | exact targumlaw4_digits.mono _ _
      | exact targumlaw4_known.mono _
      | exact LeO.none _
      | refine LeO.ite ?_ ?_
      | refine LeO.bind ?_ (fun _ => ?_)
theorem targumlaw4_BigSums.mono : ∀ a0 a1 a2 a3 k, LeO (targumlaw4_BigSums.f k a0 a1 a2 a3) (targumlaw4_BigSums.f (k + 1) a0 a1 a2 a3) := by
  intro a0 a1 a2 a3 k
  have ih0 := targumlaw4_BigSums.mono_l k
  unfold targumlaw4_BigSums.f
  repeat' first
      | (with_reducible exact ih0 _ _ _ _ _)
      | (with_reducible exact big_Add.mono _ _ _)
      | (with_reducible exact big_Compare.mono _ _ _)
      | (with_reducible exact big_Norm.mono _ _ _)
      | (with_reducible exact targumlaw4_digits.mono _ _)
      | (with_reducible exact targumlaw4_known.mono _)
      | (with_reducible exact LeO.refl _)
      | (with_reducible exact LeO.none _)
      | (with_reducible refine LeO.ite ?_ ?_)
      | (with_reducible refine LeO.bind ?_ (fun _ => ?_))
      | exact ih0 _ _ _ _ _
      | exact big_Add.mono _ _ _
      | exact big_Compare.mono _ _ _
      | exact big_Norm.mono _ _ _
      | exact targumlaw4_digits.mono _ _
      | exact targumlaw4_known.mono _
      | exact LeO.none _
      | refine LeO.ite ?_ ?_
      | refine LeO.bind ?_ (fun _ => ?_)
set_option maxHeartbeats 8000000 in
set_option maxRecDepth 100000 in
theorem targumlaw4_BigSums.calls (k : Nat) (a0 : ByteArray) (a1 : Bool) (a2 : Int) (a3 : Int) (r : Bool) (w : World) (hG : Go.Proofs.YtddaggnomcoejaaDoor.Room.PowTab w) (h : targumlaw4_BigSums.f k a0 a1 a2 a3 = some r) :
    Calls Tryd.prog 5 #[.string a0, .bool a1, .int .i32 a2, .int .i32 a3] w fun e w' => e = .returned (.bool r) ∧ Below w.heap.size w w' := by
  have HG := Aside0.mk hG
  clear hG
  have HB := Aside0.mk (Below.refl w.heap.size w)
  have H : ((targumlaw4_known.f k).bind fun t165 => (if t165 = true then (if (a0.size : Int) < 1 then (targumlaw4_BigSums.j0 k a0 a1 a2 a3 true) else (targumlaw4_BigSums.j0 k a0 a1 a2 a3 (decide ((a0.size : Int) > 60)))) else (some false))) = some r := h
  clear h
  replace H := Option.bind_eq_some_iff.mp H
  obtain ⟨t165, A50, H⟩ := H
  replace H : (if t165 = true then (if (a0.size : Int) < 1 then (targumlaw4_BigSums.j0 k a0 a1 a2 a3 true) else (targumlaw4_BigSums.j0 k a0 a1 a2 a3 (decide ((a0.size : Int) > 60)))) else (some false)) = some r := H
  have A5 := Aside0.mk A50
  clear A50
  by_cases c6 : t165 = true
  · subst c6
    have H1 : (if (a0.size : Int) < 1 then (targumlaw4_BigSums.j0 k a0 a1 a2 a3 true) else (targumlaw4_BigSums.j0 k a0 a1 a2 a3 (decide ((a0.size : Int) > 60)))) = some r := by rw [if_pos rfl] at H; exact H
    clear H
    have H := H1
    clear H1
    have HC7 := Aside0.mk H
    clear H
    go_enter Tryd.func5, Tryd.ntmps5
    go_upto_region 3 with (first | ((with_reducible refine gate_callee (f := 14) rfl ?_); refine goesL_ (some 12) rfl rfl Tryd.func14 (by kernel_rfl) rfl #[] rfl (by (try simp only [List.map_toArray, List.map_cons, List.map_nil]); first | done | rfl | (simp only [List.length_drop, List.length_take]; rfl)) ?_; (with_reducible refine (targumlaw4_known.calls k  true _ ?side1 A5.out).mono ?_); (case side1 => exact Go.Proofs.YtddaggnomcoejaaDoor.Room.PowTab_below HG.out (by repeat (first | (with_reducible first | exact HB.out | apply below_alloc | apply pw_below_drewN | apply below_drew1) | exact HB.out))); rintro e w8 ⟨rfl, hb⟩; refine ⟨_, rfl, ?_⟩; have n0_ := Aside0.mk (below_step (by repeat (first | (with_reducible first | exact HB.out | apply below_alloc | apply pw_below_drewN | apply below_drew1) | exact HB.out)) hb); clear HB; have HB := n0_; clear n0_; (try clear hb); (try clear hb2); (try clear hk); (try clear hi)))
    (try simp only [Act.put, List.setIfInBounds_toArray, List.set_cons_zero, List.set_cons_succ])
    go_cut [21] (fun v21 wc => ∃ (kq : Nat) (x21_6 : Bool), v21 = .bool x21_6 ∧ Aside0 (targumlaw4_BigSums.j0 kq a0 a1 a2 a3 x21_6 = some r) ∧ Aside0 (kq ≤ k) ∧ Aside0 (Below w.heap.size w wc))
    case first =>
      have H := HC7.out
      clear HC7
      by_cases c9 : (a0.size : Int) < 1
      · rw [if_pos c9] at H
        have c9b0 : decide ((a0.size : Int) < 1) = true := decide_eq_true c9
        have c9b1 : decide (a0.size < 1) = true := decide_eq_true (by omega)
        clear c9
        (first | rw [c9b0] | (simp only [i64_w, i32_w]; rw [c9b0]) | skip)
        have H' := Aside0.mk H
        clear H
        go_wp2
        go_meet
        case rel => exact ⟨_, (true), (by first | rfl | (simp; done) | (simp [*]; done) | (simp [wrap64]; done)), H', ⟨by first | omega | exact Nat.le_refl _⟩, ⟨by repeat (first | (with_reducible first | exact HB.out | apply below_alloc | apply pw_below_drewN | apply below_drew1) | exact HB.out)⟩⟩
      · rw [if_neg c9] at H
        have c9b0 : decide ((a0.size : Int) < 1) = false := decide_eq_false c9
        have c9b1 : decide (a0.size < 1) = false := decide_eq_false (by omega)
        clear c9
        (first | rw [c9b0] | (simp only [i64_w, i32_w]; rw [c9b0]) | skip)
        have H' := Aside0.mk H
        clear H
        go_wp2
        go_meet
        case rel => exact ⟨_, (decide ((a0.size : Int) > 60)), (by first | rfl | (simp; done) | (simp [*]; done) | (simp [wrap64]; done)), H', ⟨by first | omega | exact Nat.le_refl _⟩, ⟨by repeat (first | (with_reducible first | exact HB.out | apply below_alloc | apply pw_below_drewN | apply below_drew1) | exact HB.out)⟩⟩
    case rest =>
      clear HC7
      try clear c1
      try clear p2
      try clear c5
      try clear c6
      try clear c9
      try clear c9b0
      try clear c9b1
      obtain ⟨kq, x21_6, rfl, HA, HJ6, HB⟩ := hcut
      cases kq with
      | zero => exact absurd HA.out (by simp [targumlaw4_BigSums.j0])
      | succ kj6 =>
        have H := HA.out
        clear HA
        simp only [targumlaw4_BigSums.j0] at H
        by_cases c10 : x21_6 = true
        · subst c10
          have H1 : (some true) = some r := by rw [if_pos rfl] at H; exact H
          clear H
          have H := H1
          clear H1
          obtain rfl := Option.some.inj H
          go_wp2
          go_ret
          exact ⟨by first | rfl | (simp [errW_none, errW_some] <;> rfl) | (simp [*, errW_none, errW_some] <;> rfl), by repeat (first | (with_reducible first | exact HB.out | apply below_alloc | apply pw_below_drewN | apply below_drew1) | exact HB.out)⟩
        · replace c10 := Bool.eq_false_iff.mpr c10
          subst c10
          have H1 : ((targumlaw4_digits.f kj6 a0).bind fun t166 => ((big_Norm.f kj6 a1 t166).bind fun t167 => ((big_Add.f kj6 t167 (wrap64 (a2))).bind fun t168 => ((big_Add.f kj6 t168 (wrap64 (-(wrap64 (a2))))).bind fun t169 => (if t169.toList = t167.toList then ((big_Add.f kj6 t167 (wrap64 (a2))).bind fun t170 => ((big_Add.f kj6 t170 (wrap64 (a3))).bind fun t171 => ((big_Add.f kj6 t167 (wrap64 ((wrap64 (a2)) + (wrap64 (a3))))).bind fun t172 => (if t171.toList = t172.toList then ((big_Add.f kj6 t167 0).bind fun t173 => (if t173.toList = t167.toList then ((big_Add.f kj6 t167 1).bind fun t174 => ((big_Compare.f kj6 t174 t167).bind fun t175 => (if t175 = 1 then ((big_Add.f kj6 t167 (-1)).bind fun t176 => ((big_Compare.f kj6 t167 t176).bind fun t177 => (if t177 = 1 then ((big_Add.f kj6 t167 (wrap64 (a2))).bind fun t178 => ((big_Add.f kj6 t167 (wrap64 (a3))).bind fun t179 => ((big_Compare.f kj6 t178 t179).bind fun t180 => ((big_Add.f kj6 (⟨#[48]⟩ : ByteArray) (wrap64 (a2))).bind fun t181 => ((big_Add.f kj6 (⟨#[48]⟩ : ByteArray) (wrap64 (a3))).bind fun t182 => ((big_Compare.f kj6 t181 t182).bind fun t183 => (some (t180 == t183)))))))) else (some false)))) else (some false)))) else (some false))) else (some false))))) else (some false)))))) = some r := by rw [if_neg (show ¬ (false = true) by decide)] at H; exact H
          clear H
          have H := H1
          clear H1
          replace H := Option.bind_eq_some_iff.mp H
          obtain ⟨t166, A110, H⟩ := H
          replace H : ((big_Norm.f kj6 a1 t166).bind fun t167 => ((big_Add.f kj6 t167 (wrap64 (a2))).bind fun t168 => ((big_Add.f kj6 t168 (wrap64 (-(wrap64 (a2))))).bind fun t169 => (if t169.toList = t167.toList then ((big_Add.f kj6 t167 (wrap64 (a2))).bind fun t170 => ((big_Add.f kj6 t170 (wrap64 (a3))).bind fun t171 => ((big_Add.f kj6 t167 (wrap64 ((wrap64 (a2)) + (wrap64 (a3))))).bind fun t172 => (if t171.toList = t172.toList then ((big_Add.f kj6 t167 0).bind fun t173 => (if t173.toList = t167.toList then ((big_Add.f kj6 t167 1).bind fun t174 => ((big_Compare.f kj6 t174 t167).bind fun t175 => (if t175 = 1 then ((big_Add.f kj6 t167 (-1)).bind fun t176 => ((big_Compare.f kj6 t167 t176).bind fun t177 => (if t177 = 1 then ((big_Add.f kj6 t167 (wrap64 (a2))).bind fun t178 => ((big_Add.f kj6 t167 (wrap64 (a3))).bind fun t179 => ((big_Compare.f kj6 t178 t179).bind fun t180 => ((big_Add.f kj6 (⟨#[48]⟩ : ByteArray) (wrap64 (a2))).bind fun t181 => ((big_Add.f kj6 (⟨#[48]⟩ : ByteArray) (wrap64 (a3))).bind fun t182 => ((big_Compare.f kj6 t181 t182).bind fun t183 => (some (t180 == t183)))))))) else (some false)))) else (some false)))) else (some false))) else (some false))))) else (some false))))) = some r := H
          have A11 := Aside0.mk A110
          clear A110
          replace H := Option.bind_eq_some_iff.mp H
          obtain ⟨t167, A120, H⟩ := H
          replace H : ((big_Add.f kj6 t167 (wrap64 (a2))).bind fun t168 => ((big_Add.f kj6 t168 (wrap64 (-(wrap64 (a2))))).bind fun t169 => (if t169.toList = t167.toList then ((big_Add.f kj6 t167 (wrap64 (a2))).bind fun t170 => ((big_Add.f kj6 t170 (wrap64 (a3))).bind fun t171 => ((big_Add.f kj6 t167 (wrap64 ((wrap64 (a2)) + (wrap64 (a3))))).bind fun t172 => (if t171.toList = t172.toList then ((big_Add.f kj6 t167 0).bind fun t173 => (if t173.toList = t167.toList then ((big_Add.f kj6 t167 1).bind fun t174 => ((big_Compare.f kj6 t174 t167).bind fun t175 => (if t175 = 1 then ((big_Add.f kj6 t167 (-1)).bind fun t176 => ((big_Compare.f kj6 t167 t176).bind fun t177 => (if t177 = 1 then ((big_Add.f kj6 t167 (wrap64 (a2))).bind fun t178 => ((big_Add.f kj6 t167 (wrap64 (a3))).bind fun t179 => ((big_Compare.f kj6 t178 t179).bind fun t180 => ((big_Add.f kj6 (⟨#[48]⟩ : ByteArray) (wrap64 (a2))).bind fun t181 => ((big_Add.f kj6 (⟨#[48]⟩ : ByteArray) (wrap64 (a3))).bind fun t182 => ((big_Compare.f kj6 t181 t182).bind fun t183 => (some (t180 == t183)))))))) else (some false)))) else (some false)))) else (some false))) else (some false))))) else (some false)))) = some r := H
          have A12 := Aside0.mk A120
          clear A120
          replace H := Option.bind_eq_some_iff.mp H
          obtain ⟨t168, A130, H⟩ := H
          replace H : ((big_Add.f kj6 t168 (wrap64 (-(wrap64 (a2))))).bind fun t169 => (if t169.toList = t167.toList then ((big_Add.f kj6 t167 (wrap64 (a2))).bind fun t170 => ((big_Add.f kj6 t170 (wrap64 (a3))).bind fun t171 => ((big_Add.f kj6 t167 (wrap64 ((wrap64 (a2)) + (wrap64 (a3))))).bind fun t172 => (if t171.toList = t172.toList then ((big_Add.f kj6 t167 0).bind fun t173 => (if t173.toList = t167.toList then ((big_Add.f kj6 t167 1).bind fun t174 => ((big_Compare.f kj6 t174 t167).bind fun t175 => (if t175 = 1 then ((big_Add.f kj6 t167 (-1)).bind fun t176 => ((big_Compare.f kj6 t167 t176).bind fun t177 => (if t177 = 1 then ((big_Add.f kj6 t167 (wrap64 (a2))).bind fun t178 => ((big_Add.f kj6 t167 (wrap64 (a3))).bind fun t179 => ((big_Compare.f kj6 t178 t179).bind fun t180 => ((big_Add.f kj6 (⟨#[48]⟩ : ByteArray) (wrap64 (a2))).bind fun t181 => ((big_Add.f kj6 (⟨#[48]⟩ : ByteArray) (wrap64 (a3))).bind fun t182 => ((big_Compare.f kj6 t181 t182).bind fun t183 => (some (t180 == t183)))))))) else (some false)))) else (some false)))) else (some false))) else (some false))))) else (some false))) = some r := H
          have A13 := Aside0.mk A130
          clear A130
          replace H := Option.bind_eq_some_iff.mp H
          obtain ⟨t169, A140, H⟩ := H
          replace H : (if t169.toList = t167.toList then ((big_Add.f kj6 t167 (wrap64 (a2))).bind fun t170 => ((big_Add.f kj6 t170 (wrap64 (a3))).bind fun t171 => ((big_Add.f kj6 t167 (wrap64 ((wrap64 (a2)) + (wrap64 (a3))))).bind fun t172 => (if t171.toList = t172.toList then ((big_Add.f kj6 t167 0).bind fun t173 => (if t173.toList = t167.toList then ((big_Add.f kj6 t167 1).bind fun t174 => ((big_Compare.f kj6 t174 t167).bind fun t175 => (if t175 = 1 then ((big_Add.f kj6 t167 (-1)).bind fun t176 => ((big_Compare.f kj6 t167 t176).bind fun t177 => (if t177 = 1 then ((big_Add.f kj6 t167 (wrap64 (a2))).bind fun t178 => ((big_Add.f kj6 t167 (wrap64 (a3))).bind fun t179 => ((big_Compare.f kj6 t178 t179).bind fun t180 => ((big_Add.f kj6 (⟨#[48]⟩ : ByteArray) (wrap64 (a2))).bind fun t181 => ((big_Add.f kj6 (⟨#[48]⟩ : ByteArray) (wrap64 (a3))).bind fun t182 => ((big_Compare.f kj6 t181 t182).bind fun t183 => (some (t180 == t183)))))))) else (some false)))) else (some false)))) else (some false))) else (some false))))) else (some false)) = some r := H
          have A14 := Aside0.mk A140
          clear A140
          by_cases c15 : t169.toList = t167.toList
          · rw [if_pos c15] at H
            have c15b0 : (t169.toList == t167.toList) = true := beq_iff_eq.mpr c15
            have c15b1 : (t169.toList != t167.toList) = false := bne_eq_false_iff_eq.mpr c15
            clear c15
            replace H := Option.bind_eq_some_iff.mp H
            obtain ⟨t170, A160, H⟩ := H
            replace H : ((big_Add.f kj6 t170 (wrap64 (a3))).bind fun t171 => ((big_Add.f kj6 t167 (wrap64 ((wrap64 (a2)) + (wrap64 (a3))))).bind fun t172 => (if t171.toList = t172.toList then ((big_Add.f kj6 t167 0).bind fun t173 => (if t173.toList = t167.toList then ((big_Add.f kj6 t167 1).bind fun t174 => ((big_Compare.f kj6 t174 t167).bind fun t175 => (if t175 = 1 then ((big_Add.f kj6 t167 (-1)).bind fun t176 => ((big_Compare.f kj6 t167 t176).bind fun t177 => (if t177 = 1 then ((big_Add.f kj6 t167 (wrap64 (a2))).bind fun t178 => ((big_Add.f kj6 t167 (wrap64 (a3))).bind fun t179 => ((big_Compare.f kj6 t178 t179).bind fun t180 => ((big_Add.f kj6 (⟨#[48]⟩ : ByteArray) (wrap64 (a2))).bind fun t181 => ((big_Add.f kj6 (⟨#[48]⟩ : ByteArray) (wrap64 (a3))).bind fun t182 => ((big_Compare.f kj6 t181 t182).bind fun t183 => (some (t180 == t183)))))))) else (some false)))) else (some false)))) else (some false))) else (some false)))) = some r := H
            have A16 := Aside0.mk A160
            clear A160
            replace H := Option.bind_eq_some_iff.mp H
            obtain ⟨t171, A170, H⟩ := H
            replace H : ((big_Add.f kj6 t167 (wrap64 ((wrap64 (a2)) + (wrap64 (a3))))).bind fun t172 => (if t171.toList = t172.toList then ((big_Add.f kj6 t167 0).bind fun t173 => (if t173.toList = t167.toList then ((big_Add.f kj6 t167 1).bind fun t174 => ((big_Compare.f kj6 t174 t167).bind fun t175 => (if t175 = 1 then ((big_Add.f kj6 t167 (-1)).bind fun t176 => ((big_Compare.f kj6 t167 t176).bind fun t177 => (if t177 = 1 then ((big_Add.f kj6 t167 (wrap64 (a2))).bind fun t178 => ((big_Add.f kj6 t167 (wrap64 (a3))).bind fun t179 => ((big_Compare.f kj6 t178 t179).bind fun t180 => ((big_Add.f kj6 (⟨#[48]⟩ : ByteArray) (wrap64 (a2))).bind fun t181 => ((big_Add.f kj6 (⟨#[48]⟩ : ByteArray) (wrap64 (a3))).bind fun t182 => ((big_Compare.f kj6 t181 t182).bind fun t183 => (some (t180 == t183)))))))) else (some false)))) else (some false)))) else (some false))) else (some false))) = some r := H
            have A17 := Aside0.mk A170
            clear A170
            replace H := Option.bind_eq_some_iff.mp H
            obtain ⟨t172, A180, H⟩ := H
            replace H : (if t171.toList = t172.toList then ((big_Add.f kj6 t167 0).bind fun t173 => (if t173.toList = t167.toList then ((big_Add.f kj6 t167 1).bind fun t174 => ((big_Compare.f kj6 t174 t167).bind fun t175 => (if t175 = 1 then ((big_Add.f kj6 t167 (-1)).bind fun t176 => ((big_Compare.f kj6 t167 t176).bind fun t177 => (if t177 = 1 then ((big_Add.f kj6 t167 (wrap64 (a2))).bind fun t178 => ((big_Add.f kj6 t167 (wrap64 (a3))).bind fun t179 => ((big_Compare.f kj6 t178 t179).bind fun t180 => ((big_Add.f kj6 (⟨#[48]⟩ : ByteArray) (wrap64 (a2))).bind fun t181 => ((big_Add.f kj6 (⟨#[48]⟩ : ByteArray) (wrap64 (a3))).bind fun t182 => ((big_Compare.f kj6 t181 t182).bind fun t183 => (some (t180 == t183)))))))) else (some false)))) else (some false)))) else (some false))) else (some false)) = some r := H
            have A18 := Aside0.mk A180
            clear A180
            by_cases c19 : t171.toList = t172.toList
            · rw [if_pos c19] at H
              have c19b0 : (t171.toList == t172.toList) = true := beq_iff_eq.mpr c19
              have c19b1 : (t171.toList != t172.toList) = false := bne_eq_false_iff_eq.mpr c19
              clear c19
              replace H := Option.bind_eq_some_iff.mp H
              obtain ⟨t173, A200, H⟩ := H
              replace H : (if t173.toList = t167.toList then ((big_Add.f kj6 t167 1).bind fun t174 => ((big_Compare.f kj6 t174 t167).bind fun t175 => (if t175 = 1 then ((big_Add.f kj6 t167 (-1)).bind fun t176 => ((big_Compare.f kj6 t167 t176).bind fun t177 => (if t177 = 1 then ((big_Add.f kj6 t167 (wrap64 (a2))).bind fun t178 => ((big_Add.f kj6 t167 (wrap64 (a3))).bind fun t179 => ((big_Compare.f kj6 t178 t179).bind fun t180 => ((big_Add.f kj6 (⟨#[48]⟩ : ByteArray) (wrap64 (a2))).bind fun t181 => ((big_Add.f kj6 (⟨#[48]⟩ : ByteArray) (wrap64 (a3))).bind fun t182 => ((big_Compare.f kj6 t181 t182).bind fun t183 => (some (t180 == t183)))))))) else (some false)))) else (some false)))) else (some false)) = some r := H
              have A20 := Aside0.mk A200
              clear A200
              by_cases c21 : t173.toList = t167.toList
              · rw [if_pos c21] at H
                have c21b0 : (t173.toList == t167.toList) = true := beq_iff_eq.mpr c21
                have c21b1 : (t173.toList != t167.toList) = false := bne_eq_false_iff_eq.mpr c21
                clear c21
                replace H := Option.bind_eq_some_iff.mp H
                obtain ⟨t174, A220, H⟩ := H
                replace H : ((big_Compare.f kj6 t174 t167).bind fun t175 => (if t175 = 1 then ((big_Add.f kj6 t167 (-1)).bind fun t176 => ((big_Compare.f kj6 t167 t176).bind fun t177 => (if t177 = 1 then ((big_Add.f kj6 t167 (wrap64 (a2))).bind fun t178 => ((big_Add.f kj6 t167 (wrap64 (a3))).bind fun t179 => ((big_Compare.f kj6 t178 t179).bind fun t180 => ((big_Add.f kj6 (⟨#[48]⟩ : ByteArray) (wrap64 (a2))).bind fun t181 => ((big_Add.f kj6 (⟨#[48]⟩ : ByteArray) (wrap64 (a3))).bind fun t182 => ((big_Compare.f kj6 t181 t182).bind fun t183 => (some (t180 == t183)))))))) else (some false)))) else (some false))) = some r := H
                have A22 := Aside0.mk A220
                clear A220
                replace H := Option.bind_eq_some_iff.mp H
                obtain ⟨t175, A230, H⟩ := H
                replace H : (if t175 = 1 then ((big_Add.f kj6 t167 (-1)).bind fun t176 => ((big_Compare.f kj6 t167 t176).bind fun t177 => (if t177 = 1 then ((big_Add.f kj6 t167 (wrap64 (a2))).bind fun t178 => ((big_Add.f kj6 t167 (wrap64 (a3))).bind fun t179 => ((big_Compare.f kj6 t178 t179).bind fun t180 => ((big_Add.f kj6 (⟨#[48]⟩ : ByteArray) (wrap64 (a2))).bind fun t181 => ((big_Add.f kj6 (⟨#[48]⟩ : ByteArray) (wrap64 (a3))).bind fun t182 => ((big_Compare.f kj6 t181 t182).bind fun t183 => (some (t180 == t183)))))))) else (some false)))) else (some false)) = some r := H
                have A23 := Aside0.mk A230
                clear A230
                by_cases c24 : t175 = 1
                · rw [if_pos c24] at H
                  have c24b0 : (t175 == 1) = true := beq_iff_eq.mpr c24
                  have c24b1 : (t175 != 1) = false := bne_eq_false_iff_eq.mpr c24
                  clear c24
                  replace H := Option.bind_eq_some_iff.mp H
                  obtain ⟨t176, A250, H⟩ := H
                  replace H : ((big_Compare.f kj6 t167 t176).bind fun t177 => (if t177 = 1 then ((big_Add.f kj6 t167 (wrap64 (a2))).bind fun t178 => ((big_Add.f kj6 t167 (wrap64 (a3))).bind fun t179 => ((big_Compare.f kj6 t178 t179).bind fun t180 => ((big_Add.f kj6 (⟨#[48]⟩ : ByteArray) (wrap64 (a2))).bind fun t181 => ((big_Add.f kj6 (⟨#[48]⟩ : ByteArray) (wrap64 (a3))).bind fun t182 => ((big_Compare.f kj6 t181 t182).bind fun t183 => (some (t180 == t183)))))))) else (some false))) = some r := H
                  have A25 := Aside0.mk A250
                  clear A250
                  replace H := Option.bind_eq_some_iff.mp H
                  obtain ⟨t177, A260, H⟩ := H
                  replace H : (if t177 = 1 then ((big_Add.f kj6 t167 (wrap64 (a2))).bind fun t178 => ((big_Add.f kj6 t167 (wrap64 (a3))).bind fun t179 => ((big_Compare.f kj6 t178 t179).bind fun t180 => ((big_Add.f kj6 (⟨#[48]⟩ : ByteArray) (wrap64 (a2))).bind fun t181 => ((big_Add.f kj6 (⟨#[48]⟩ : ByteArray) (wrap64 (a3))).bind fun t182 => ((big_Compare.f kj6 t181 t182).bind fun t183 => (some (t180 == t183)))))))) else (some false)) = some r := H
                  have A26 := Aside0.mk A260
                  clear A260
                  by_cases c27 : t177 = 1
                  · rw [if_pos c27] at H
                    have c27b0 : (t177 == 1) = true := beq_iff_eq.mpr c27
                    have c27b1 : (t177 != 1) = false := bne_eq_false_iff_eq.mpr c27
                    clear c27
                    replace H := Option.bind_eq_some_iff.mp H
                    obtain ⟨t178, A280, H⟩ := H
                    replace H : ((big_Add.f kj6 t167 (wrap64 (a3))).bind fun t179 => ((big_Compare.f kj6 t178 t179).bind fun t180 => ((big_Add.f kj6 (⟨#[48]⟩ : ByteArray) (wrap64 (a2))).bind fun t181 => ((big_Add.f kj6 (⟨#[48]⟩ : ByteArray) (wrap64 (a3))).bind fun t182 => ((big_Compare.f kj6 t181 t182).bind fun t183 => (some (t180 == t183))))))) = some r := H
                    have A28 := Aside0.mk A280
                    clear A280
                    replace H := Option.bind_eq_some_iff.mp H
                    obtain ⟨t179, A290, H⟩ := H
                    replace H : ((big_Compare.f kj6 t178 t179).bind fun t180 => ((big_Add.f kj6 (⟨#[48]⟩ : ByteArray) (wrap64 (a2))).bind fun t181 => ((big_Add.f kj6 (⟨#[48]⟩ : ByteArray) (wrap64 (a3))).bind fun t182 => ((big_Compare.f kj6 t181 t182).bind fun t183 => (some (t180 == t183)))))) = some r := H
                    have A29 := Aside0.mk A290
                    clear A290
                    replace H := Option.bind_eq_some_iff.mp H
                    obtain ⟨t180, A300, H⟩ := H
                    replace H : ((big_Add.f kj6 (⟨#[48]⟩ : ByteArray) (wrap64 (a2))).bind fun t181 => ((big_Add.f kj6 (⟨#[48]⟩ : ByteArray) (wrap64 (a3))).bind fun t182 => ((big_Compare.f kj6 t181 t182).bind fun t183 => (some (t180 == t183))))) = some r := H
                    have A30 := Aside0.mk A300
                    clear A300
                    replace H := Option.bind_eq_some_iff.mp H
                    obtain ⟨t181, A310, H⟩ := H
                    replace H : ((big_Add.f kj6 (⟨#[48]⟩ : ByteArray) (wrap64 (a3))).bind fun t182 => ((big_Compare.f kj6 t181 t182).bind fun t183 => (some (t180 == t183)))) = some r := H
                    have A31 := Aside0.mk A310
                    clear A310
                    replace H := Option.bind_eq_some_iff.mp H
                    obtain ⟨t182, A320, H⟩ := H
                    replace H : ((big_Compare.f kj6 t181 t182).bind fun t183 => (some (t180 == t183))) = some r := H
                    have A32 := Aside0.mk A320
                    clear A320
                    replace H := Option.bind_eq_some_iff.mp H
                    obtain ⟨t183, A330, H⟩ := H
                    replace H : (some (t180 == t183)) = some r := H
                    have A33 := Aside0.mk A330
                    clear A330
                    obtain rfl := Option.some.inj H
                    go_wp2_with (first | ((with_reducible refine gate_callee (f := 27) rfl ?_); refine goesL_ (some 24) rfl rfl Tryd.func27 (by kernel_rfl) rfl #[.string a0] rfl (by (try simp only [List.map_toArray, List.map_cons, List.map_nil]); first | done | rfl | (simp only [List.length_drop, List.length_take]; rfl)) ?_; (with_reducible refine (targumlaw4_digits.calls kj6 a0 t166 _ A11.out).mono ?_); rintro e w34 ⟨rfl, hb⟩; refine ⟨_, rfl, ?_⟩; have n0_ := Aside0.mk (below_step (by repeat (first | (with_reducible first | exact HB.out | apply below_alloc | apply pw_below_drewN | apply below_drew1) | exact HB.out)) hb); clear HB; have HB := n0_; clear n0_; (try clear hb); (try clear hb2); (try clear hk); (try clear hi)) | ((with_reducible refine gate_callee (f := 18) rfl ?_); refine goesL_ (some 25) rfl rfl Tryd.func18 (by kernel_rfl) rfl #[.bool a1, .string t166] rfl (by (try simp only [List.map_toArray, List.map_cons, List.map_nil]); first | done | rfl | (simp only [List.length_drop, List.length_take]; rfl)) ?_; (with_reducible refine (big_Norm.calls kj6 a1 t166 t167 _ A12.out).mono ?_); rintro e w35 ⟨rfl, hb⟩; refine ⟨_, rfl, ?_⟩; have n0_ := Aside0.mk (below_step (by repeat (first | (with_reducible first | exact HB.out | apply below_alloc | apply pw_below_drewN | apply below_drew1) | exact HB.out)) hb); clear HB; have HB := n0_; clear n0_; (try clear hb); (try clear hb2); (try clear hk); (try clear hi)) | (go_at_call 23; (with_reducible refine (big_Add.calls kj6 t167 (wrap64 (a2)) t168 _ ?side1 A13.out).mono ?_); (case side1 => exact Go.Proofs.YtddaggnomcoejaaDoor.Room.PowTab_below HG.out (by repeat (first | (with_reducible first | exact HB.out | apply below_alloc | apply pw_below_drewN | apply below_drew1) | exact HB.out))); rintro e w36 ⟨rfl, hb⟩; have n0_ := Aside0.mk (below_step (by repeat (first | (with_reducible first | exact HB.out | apply below_alloc | apply pw_below_drewN | apply below_drew1) | exact HB.out)) hb); clear HB; have HB := n0_; clear n0_; (try clear hb); (try clear hb2); (try clear hk); (try clear hi); clear A13) | (go_at_call 23; (with_reducible refine (big_Add.calls kj6 t168 (wrap64 (-(wrap64 (a2)))) t169 _ ?side1 A14.out).mono ?_); (case side1 => exact Go.Proofs.YtddaggnomcoejaaDoor.Room.PowTab_below HG.out (by repeat (first | (with_reducible first | exact HB.out | apply below_alloc | apply pw_below_drewN | apply below_drew1) | exact HB.out))); rintro e w37 ⟨rfl, hb⟩; have n0_ := Aside0.mk (below_step (by repeat (first | (with_reducible first | exact HB.out | apply below_alloc | apply pw_below_drewN | apply below_drew1) | exact HB.out)) hb); clear HB; have HB := n0_; clear n0_; (try clear hb); (try clear hb2); (try clear hk); (try clear hi)) | (go_at_call 23; (with_reducible refine (big_Add.calls kj6 t167 (wrap64 (a2)) t170 _ ?side1 A16.out).mono ?_); (case side1 => exact Go.Proofs.YtddaggnomcoejaaDoor.Room.PowTab_below HG.out (by repeat (first | (with_reducible first | exact HB.out | apply below_alloc | apply pw_below_drewN | apply below_drew1) | exact HB.out))); rintro e w38 ⟨rfl, hb⟩; have n0_ := Aside0.mk (below_step (by repeat (first | (with_reducible first | exact HB.out | apply below_alloc | apply pw_below_drewN | apply below_drew1) | exact HB.out)) hb); clear HB; have HB := n0_; clear n0_; (try clear hb); (try clear hb2); (try clear hk); (try clear hi); clear A16) | (go_at_call 23; (with_reducible refine (big_Add.calls kj6 t170 (wrap64 (a3)) t171 _ ?side1 A17.out).mono ?_); (case side1 => exact Go.Proofs.YtddaggnomcoejaaDoor.Room.PowTab_below HG.out (by repeat (first | (with_reducible first | exact HB.out | apply below_alloc | apply pw_below_drewN | apply below_drew1) | exact HB.out))); rintro e w39 ⟨rfl, hb⟩; have n0_ := Aside0.mk (below_step (by repeat (first | (with_reducible first | exact HB.out | apply below_alloc | apply pw_below_drewN | apply below_drew1) | exact HB.out)) hb); clear HB; have HB := n0_; clear n0_; (try clear hb); (try clear hb2); (try clear hk); (try clear hi)) | (go_at_call 23; (with_reducible refine (big_Add.calls kj6 t167 (wrap64 ((wrap64 (a2)) + (wrap64 (a3)))) t172 _ ?side1 A18.out).mono ?_); (case side1 => exact Go.Proofs.YtddaggnomcoejaaDoor.Room.PowTab_below HG.out (by repeat (first | (with_reducible first | exact HB.out | apply below_alloc | apply pw_below_drewN | apply below_drew1) | exact HB.out))); rintro e w40 ⟨rfl, hb⟩; have n0_ := Aside0.mk (below_step (by repeat (first | (with_reducible first | exact HB.out | apply below_alloc | apply pw_below_drewN | apply below_drew1) | exact HB.out)) hb); clear HB; have HB := n0_; clear n0_; (try clear hb); (try clear hb2); (try clear hk); (try clear hi)) | (go_at_call 23; (with_reducible refine (big_Add.calls kj6 t167 0 t173 _ ?side1 A20.out).mono ?_); (case side1 => exact Go.Proofs.YtddaggnomcoejaaDoor.Room.PowTab_below HG.out (by repeat (first | (with_reducible first | exact HB.out | apply below_alloc | apply pw_below_drewN | apply below_drew1) | exact HB.out))); rintro e w41 ⟨rfl, hb⟩; have n0_ := Aside0.mk (below_step (by repeat (first | (with_reducible first | exact HB.out | apply below_alloc | apply pw_below_drewN | apply below_drew1) | exact HB.out)) hb); clear HB; have HB := n0_; clear n0_; (try clear hb); (try clear hb2); (try clear hk); (try clear hi)) | (go_at_call 23; (with_reducible refine (big_Add.calls kj6 t167 1 t174 _ ?side1 A22.out).mono ?_); (case side1 => exact Go.Proofs.YtddaggnomcoejaaDoor.Room.PowTab_below HG.out (by repeat (first | (with_reducible first | exact HB.out | apply below_alloc | apply pw_below_drewN | apply below_drew1) | exact HB.out))); rintro e w42 ⟨rfl, hb⟩; have n0_ := Aside0.mk (below_step (by repeat (first | (with_reducible first | exact HB.out | apply below_alloc | apply pw_below_drewN | apply below_drew1) | exact HB.out)) hb); clear HB; have HB := n0_; clear n0_; (try clear hb); (try clear hb2); (try clear hk); (try clear hi)) | (go_at_call 25; (with_reducible refine (big_Compare.calls kj6 t174 t167 t175 _ A23.out).mono ?_); rintro e w43 ⟨rfl, hb⟩; have n0_ := Aside0.mk (below_step (by repeat (first | (with_reducible first | exact HB.out | apply below_alloc | apply pw_below_drewN | apply below_drew1) | exact HB.out)) hb); clear HB; have HB := n0_; clear n0_; (try clear hb); (try clear hb2); (try clear hk); (try clear hi); clear A23) | (go_at_call 23; (with_reducible refine (big_Add.calls kj6 t167 (-1) t176 _ ?side1 A25.out).mono ?_); (case side1 => exact Go.Proofs.YtddaggnomcoejaaDoor.Room.PowTab_below HG.out (by repeat (first | (with_reducible first | exact HB.out | apply below_alloc | apply pw_below_drewN | apply below_drew1) | exact HB.out))); rintro e w44 ⟨rfl, hb⟩; have n0_ := Aside0.mk (below_step (by repeat (first | (with_reducible first | exact HB.out | apply below_alloc | apply pw_below_drewN | apply below_drew1) | exact HB.out)) hb); clear HB; have HB := n0_; clear n0_; (try clear hb); (try clear hb2); (try clear hk); (try clear hi)) | (go_at_call 25; (with_reducible refine (big_Compare.calls kj6 t167 t176 t177 _ A26.out).mono ?_); rintro e w45 ⟨rfl, hb⟩; have n0_ := Aside0.mk (below_step (by repeat (first | (with_reducible first | exact HB.out | apply below_alloc | apply pw_below_drewN | apply below_drew1) | exact HB.out)) hb); clear HB; have HB := n0_; clear n0_; (try clear hb); (try clear hb2); (try clear hk); (try clear hi); clear A26) | (go_at_call 23; (with_reducible refine (big_Add.calls kj6 t167 (wrap64 (a2)) t178 _ ?side1 A28.out).mono ?_); (case side1 => exact Go.Proofs.YtddaggnomcoejaaDoor.Room.PowTab_below HG.out (by repeat (first | (with_reducible first | exact HB.out | apply below_alloc | apply pw_below_drewN | apply below_drew1) | exact HB.out))); rintro e w46 ⟨rfl, hb⟩; have n0_ := Aside0.mk (below_step (by repeat (first | (with_reducible first | exact HB.out | apply below_alloc | apply pw_below_drewN | apply below_drew1) | exact HB.out)) hb); clear HB; have HB := n0_; clear n0_; (try clear hb); (try clear hb2); (try clear hk); (try clear hi); clear A28) | (go_at_call 23; (with_reducible refine (big_Add.calls kj6 t167 (wrap64 (a3)) t179 _ ?side1 A29.out).mono ?_); (case side1 => exact Go.Proofs.YtddaggnomcoejaaDoor.Room.PowTab_below HG.out (by repeat (first | (with_reducible first | exact HB.out | apply below_alloc | apply pw_below_drewN | apply below_drew1) | exact HB.out))); rintro e w47 ⟨rfl, hb⟩; have n0_ := Aside0.mk (below_step (by repeat (first | (with_reducible first | exact HB.out | apply below_alloc | apply pw_below_drewN | apply below_drew1) | exact HB.out)) hb); clear HB; have HB := n0_; clear n0_; (try clear hb); (try clear hb2); (try clear hk); (try clear hi)) | (go_at_call 25; (with_reducible refine (big_Compare.calls kj6 t178 t179 t180 _ A30.out).mono ?_); rintro e w48 ⟨rfl, hb⟩; have n0_ := Aside0.mk (below_step (by repeat (first | (with_reducible first | exact HB.out | apply below_alloc | apply pw_below_drewN | apply below_drew1) | exact HB.out)) hb); clear HB; have HB := n0_; clear n0_; (try clear hb); (try clear hb2); (try clear hk); (try clear hi); clear A30) | (go_at_call 23; (with_reducible refine (big_Add.calls kj6 (⟨#[48]⟩ : ByteArray) (wrap64 (a2)) t181 _ ?side1 A31.out).mono ?_); (case side1 => exact Go.Proofs.YtddaggnomcoejaaDoor.Room.PowTab_below HG.out (by repeat (first | (with_reducible first | exact HB.out | apply below_alloc | apply pw_below_drewN | apply below_drew1) | exact HB.out))); rintro e w49 ⟨rfl, hb⟩; have n0_ := Aside0.mk (below_step (by repeat (first | (with_reducible first | exact HB.out | apply below_alloc | apply pw_below_drewN | apply below_drew1) | exact HB.out)) hb); clear HB; have HB := n0_; clear n0_; (try clear hb); (try clear hb2); (try clear hk); (try clear hi)) | (go_at_call 23; (with_reducible refine (big_Add.calls kj6 (⟨#[48]⟩ : ByteArray) (wrap64 (a3)) t182 _ ?side1 A32.out).mono ?_); (case side1 => exact Go.Proofs.YtddaggnomcoejaaDoor.Room.PowTab_below HG.out (by repeat (first | (with_reducible first | exact HB.out | apply below_alloc | apply pw_below_drewN | apply below_drew1) | exact HB.out))); rintro e w50 ⟨rfl, hb⟩; have n0_ := Aside0.mk (below_step (by repeat (first | (with_reducible first | exact HB.out | apply below_alloc | apply pw_below_drewN | apply below_drew1) | exact HB.out)) hb); clear HB; have HB := n0_; clear n0_; (try clear hb); (try clear hb2); (try clear hk); (try clear hi)) | (go_at_call 25; (with_reducible refine (big_Compare.calls kj6 t181 t182 t183 _ A33.out).mono ?_); rintro e w51 ⟨rfl, hb⟩; have n0_ := Aside0.mk (below_step (by repeat (first | (with_reducible first | exact HB.out | apply below_alloc | apply pw_below_drewN | apply below_drew1) | exact HB.out)) hb); clear HB; have HB := n0_; clear n0_; (try clear hb); (try clear hb2); (try clear hk); (try clear hi); clear A33))
                    go_ret
                    exact ⟨by first | rfl | (simp [errW_none, errW_some] <;> rfl) | (simp [*, errW_none, errW_some] <;> rfl), by repeat (first | (with_reducible first | exact HB.out | apply below_alloc | apply pw_below_drewN | apply below_drew1) | exact HB.out)⟩
                  · rw [if_neg c27] at H
                    have c27b0 : (t177 == 1) = false := beq_eq_false_iff_ne.mpr c27
                    have c27b1 : (t177 != 1) = true := bne_iff_ne.mpr c27
                    obtain rfl := Option.some.inj H
                    go_wp2_with (first | ((with_reducible refine gate_callee (f := 27) rfl ?_); refine goesL_ (some 24) rfl rfl Tryd.func27 (by kernel_rfl) rfl #[.string a0] rfl (by (try simp only [List.map_toArray, List.map_cons, List.map_nil]); first | done | rfl | (simp only [List.length_drop, List.length_take]; rfl)) ?_; (with_reducible refine (targumlaw4_digits.calls kj6 a0 t166 _ A11.out).mono ?_); rintro e w52 ⟨rfl, hb⟩; refine ⟨_, rfl, ?_⟩; have n0_ := Aside0.mk (below_step (by repeat (first | (with_reducible first | exact HB.out | apply below_alloc | apply pw_below_drewN | apply below_drew1) | exact HB.out)) hb); clear HB; have HB := n0_; clear n0_; (try clear hb); (try clear hb2); (try clear hk); (try clear hi)) | ((with_reducible refine gate_callee (f := 18) rfl ?_); refine goesL_ (some 25) rfl rfl Tryd.func18 (by kernel_rfl) rfl #[.bool a1, .string t166] rfl (by (try simp only [List.map_toArray, List.map_cons, List.map_nil]); first | done | rfl | (simp only [List.length_drop, List.length_take]; rfl)) ?_; (with_reducible refine (big_Norm.calls kj6 a1 t166 t167 _ A12.out).mono ?_); rintro e w53 ⟨rfl, hb⟩; refine ⟨_, rfl, ?_⟩; have n0_ := Aside0.mk (below_step (by repeat (first | (with_reducible first | exact HB.out | apply below_alloc | apply pw_below_drewN | apply below_drew1) | exact HB.out)) hb); clear HB; have HB := n0_; clear n0_; (try clear hb); (try clear hb2); (try clear hk); (try clear hi)) | (go_at_call 23; (with_reducible refine (big_Add.calls kj6 t167 (wrap64 (a2)) t168 _ ?side1 A13.out).mono ?_); (case side1 => exact Go.Proofs.YtddaggnomcoejaaDoor.Room.PowTab_below HG.out (by repeat (first | (with_reducible first | exact HB.out | apply below_alloc | apply pw_below_drewN | apply below_drew1) | exact HB.out))); rintro e w54 ⟨rfl, hb⟩; have n0_ := Aside0.mk (below_step (by repeat (first | (with_reducible first | exact HB.out | apply below_alloc | apply pw_below_drewN | apply below_drew1) | exact HB.out)) hb); clear HB; have HB := n0_; clear n0_; (try clear hb); (try clear hb2); (try clear hk); (try clear hi); clear A13) | (go_at_call 23; (with_reducible refine (big_Add.calls kj6 t168 (wrap64 (-(wrap64 (a2)))) t169 _ ?side1 A14.out).mono ?_); (case side1 => exact Go.Proofs.YtddaggnomcoejaaDoor.Room.PowTab_below HG.out (by repeat (first | (with_reducible first | exact HB.out | apply below_alloc | apply pw_below_drewN | apply below_drew1) | exact HB.out))); rintro e w55 ⟨rfl, hb⟩; have n0_ := Aside0.mk (below_step (by repeat (first | (with_reducible first | exact HB.out | apply below_alloc | apply pw_below_drewN | apply below_drew1) | exact HB.out)) hb); clear HB; have HB := n0_; clear n0_; (try clear hb); (try clear hb2); (try clear hk); (try clear hi)) | (go_at_call 23; (with_reducible refine (big_Add.calls kj6 t167 (wrap64 (a2)) t170 _ ?side1 A16.out).mono ?_); (case side1 => exact Go.Proofs.YtddaggnomcoejaaDoor.Room.PowTab_below HG.out (by repeat (first | (with_reducible first | exact HB.out | apply below_alloc | apply pw_below_drewN | apply below_drew1) | exact HB.out))); rintro e w56 ⟨rfl, hb⟩; have n0_ := Aside0.mk (below_step (by repeat (first | (with_reducible first | exact HB.out | apply below_alloc | apply pw_below_drewN | apply below_drew1) | exact HB.out)) hb); clear HB; have HB := n0_; clear n0_; (try clear hb); (try clear hb2); (try clear hk); (try clear hi); clear A16) | (go_at_call 23; (with_reducible refine (big_Add.calls kj6 t170 (wrap64 (a3)) t171 _ ?side1 A17.out).mono ?_); (case side1 => exact Go.Proofs.YtddaggnomcoejaaDoor.Room.PowTab_below HG.out (by repeat (first | (with_reducible first | exact HB.out | apply below_alloc | apply pw_below_drewN | apply below_drew1) | exact HB.out))); rintro e w57 ⟨rfl, hb⟩; have n0_ := Aside0.mk (below_step (by repeat (first | (with_reducible first | exact HB.out | apply below_alloc | apply pw_below_drewN | apply below_drew1) | exact HB.out)) hb); clear HB; have HB := n0_; clear n0_; (try clear hb); (try clear hb2); (try clear hk); (try clear hi)) | (go_at_call 23; (with_reducible refine (big_Add.calls kj6 t167 (wrap64 ((wrap64 (a2)) + (wrap64 (a3)))) t172 _ ?side1 A18.out).mono ?_); (case side1 => exact Go.Proofs.YtddaggnomcoejaaDoor.Room.PowTab_below HG.out (by repeat (first | (with_reducible first | exact HB.out | apply below_alloc | apply pw_below_drewN | apply below_drew1) | exact HB.out))); rintro e w58 ⟨rfl, hb⟩; have n0_ := Aside0.mk (below_step (by repeat (first | (with_reducible first | exact HB.out | apply below_alloc | apply pw_below_drewN | apply below_drew1) | exact HB.out)) hb); clear HB; have HB := n0_; clear n0_; (try clear hb); (try clear hb2); (try clear hk); (try clear hi)) | (go_at_call 23; (with_reducible refine (big_Add.calls kj6 t167 0 t173 _ ?side1 A20.out).mono ?_); (case side1 => exact Go.Proofs.YtddaggnomcoejaaDoor.Room.PowTab_below HG.out (by repeat (first | (with_reducible first | exact HB.out | apply below_alloc | apply pw_below_drewN | apply below_drew1) | exact HB.out))); rintro e w59 ⟨rfl, hb⟩; have n0_ := Aside0.mk (below_step (by repeat (first | (with_reducible first | exact HB.out | apply below_alloc | apply pw_below_drewN | apply below_drew1) | exact HB.out)) hb); clear HB; have HB := n0_; clear n0_; (try clear hb); (try clear hb2); (try clear hk); (try clear hi)) | (go_at_call 23; (with_reducible refine (big_Add.calls kj6 t167 1 t174 _ ?side1 A22.out).mono ?_); (case side1 => exact Go.Proofs.YtddaggnomcoejaaDoor.Room.PowTab_below HG.out (by repeat (first | (with_reducible first | exact HB.out | apply below_alloc | apply pw_below_drewN | apply below_drew1) | exact HB.out))); rintro e w60 ⟨rfl, hb⟩; have n0_ := Aside0.mk (below_step (by repeat (first | (with_reducible first | exact HB.out | apply below_alloc | apply pw_below_drewN | apply below_drew1) | exact HB.out)) hb); clear HB; have HB := n0_; clear n0_; (try clear hb); (try clear hb2); (try clear hk); (try clear hi)) | (go_at_call 25; (with_reducible refine (big_Compare.calls kj6 t174 t167 t175 _ A23.out).mono ?_); rintro e w61 ⟨rfl, hb⟩; have n0_ := Aside0.mk (below_step (by repeat (first | (with_reducible first | exact HB.out | apply below_alloc | apply pw_below_drewN | apply below_drew1) | exact HB.out)) hb); clear HB; have HB := n0_; clear n0_; (try clear hb); (try clear hb2); (try clear hk); (try clear hi); clear A23) | (go_at_call 23; (with_reducible refine (big_Add.calls kj6 t167 (-1) t176 _ ?side1 A25.out).mono ?_); (case side1 => exact Go.Proofs.YtddaggnomcoejaaDoor.Room.PowTab_below HG.out (by repeat (first | (with_reducible first | exact HB.out | apply below_alloc | apply pw_below_drewN | apply below_drew1) | exact HB.out))); rintro e w62 ⟨rfl, hb⟩; have n0_ := Aside0.mk (below_step (by repeat (first | (with_reducible first | exact HB.out | apply below_alloc | apply pw_below_drewN | apply below_drew1) | exact HB.out)) hb); clear HB; have HB := n0_; clear n0_; (try clear hb); (try clear hb2); (try clear hk); (try clear hi)) | (go_at_call 25; (with_reducible refine (big_Compare.calls kj6 t167 t176 t177 _ A26.out).mono ?_); rintro e w63 ⟨rfl, hb⟩; have n0_ := Aside0.mk (below_step (by repeat (first | (with_reducible first | exact HB.out | apply below_alloc | apply pw_below_drewN | apply below_drew1) | exact HB.out)) hb); clear HB; have HB := n0_; clear n0_; (try clear hb); (try clear hb2); (try clear hk); (try clear hi); clear A26))
                    go_ret
                    exact ⟨by first | rfl | (simp [errW_none, errW_some] <;> rfl) | (simp [*, errW_none, errW_some] <;> rfl), by repeat (first | (with_reducible first | exact HB.out | apply below_alloc | apply pw_below_drewN | apply below_drew1) | exact HB.out)⟩
                · rw [if_neg c24] at H
                  have c24b0 : (t175 == 1) = false := beq_eq_false_iff_ne.mpr c24
                  have c24b1 : (t175 != 1) = true := bne_iff_ne.mpr c24
                  obtain rfl := Option.some.inj H
                  go_wp2_with (first | ((with_reducible refine gate_callee (f := 27) rfl ?_); refine goesL_ (some 24) rfl rfl Tryd.func27 (by kernel_rfl) rfl #[.string a0] rfl (by (try simp only [List.map_toArray, List.map_cons, List.map_nil]); first | done | rfl | (simp only [List.length_drop, List.length_take]; rfl)) ?_; (with_reducible refine (targumlaw4_digits.calls kj6 a0 t166 _ A11.out).mono ?_); rintro e w64 ⟨rfl, hb⟩; refine ⟨_, rfl, ?_⟩; have n0_ := Aside0.mk (below_step (by repeat (first | (with_reducible first | exact HB.out | apply below_alloc | apply pw_below_drewN | apply below_drew1) | exact HB.out)) hb); clear HB; have HB := n0_; clear n0_; (try clear hb); (try clear hb2); (try clear hk); (try clear hi)) | ((with_reducible refine gate_callee (f := 18) rfl ?_); refine goesL_ (some 25) rfl rfl Tryd.func18 (by kernel_rfl) rfl #[.bool a1, .string t166] rfl (by (try simp only [List.map_toArray, List.map_cons, List.map_nil]); first | done | rfl | (simp only [List.length_drop, List.length_take]; rfl)) ?_; (with_reducible refine (big_Norm.calls kj6 a1 t166 t167 _ A12.out).mono ?_); rintro e w65 ⟨rfl, hb⟩; refine ⟨_, rfl, ?_⟩; have n0_ := Aside0.mk (below_step (by repeat (first | (with_reducible first | exact HB.out | apply below_alloc | apply pw_below_drewN | apply below_drew1) | exact HB.out)) hb); clear HB; have HB := n0_; clear n0_; (try clear hb); (try clear hb2); (try clear hk); (try clear hi)) | (go_at_call 23; (with_reducible refine (big_Add.calls kj6 t167 (wrap64 (a2)) t168 _ ?side1 A13.out).mono ?_); (case side1 => exact Go.Proofs.YtddaggnomcoejaaDoor.Room.PowTab_below HG.out (by repeat (first | (with_reducible first | exact HB.out | apply below_alloc | apply pw_below_drewN | apply below_drew1) | exact HB.out))); rintro e w66 ⟨rfl, hb⟩; have n0_ := Aside0.mk (below_step (by repeat (first | (with_reducible first | exact HB.out | apply below_alloc | apply pw_below_drewN | apply below_drew1) | exact HB.out)) hb); clear HB; have HB := n0_; clear n0_; (try clear hb); (try clear hb2); (try clear hk); (try clear hi); clear A13) | (go_at_call 23; (with_reducible refine (big_Add.calls kj6 t168 (wrap64 (-(wrap64 (a2)))) t169 _ ?side1 A14.out).mono ?_); (case side1 => exact Go.Proofs.YtddaggnomcoejaaDoor.Room.PowTab_below HG.out (by repeat (first | (with_reducible first | exact HB.out | apply below_alloc | apply pw_below_drewN | apply below_drew1) | exact HB.out))); rintro e w67 ⟨rfl, hb⟩; have n0_ := Aside0.mk (below_step (by repeat (first | (with_reducible first | exact HB.out | apply below_alloc | apply pw_below_drewN | apply below_drew1) | exact HB.out)) hb); clear HB; have HB := n0_; clear n0_; (try clear hb); (try clear hb2); (try clear hk); (try clear hi)) | (go_at_call 23; (with_reducible refine (big_Add.calls kj6 t167 (wrap64 (a2)) t170 _ ?side1 A16.out).mono ?_); (case side1 => exact Go.Proofs.YtddaggnomcoejaaDoor.Room.PowTab_below HG.out (by repeat (first | (with_reducible first | exact HB.out | apply below_alloc | apply pw_below_drewN | apply below_drew1) | exact HB.out))); rintro e w68 ⟨rfl, hb⟩; have n0_ := Aside0.mk (below_step (by repeat (first | (with_reducible first | exact HB.out | apply below_alloc | apply pw_below_drewN | apply below_drew1) | exact HB.out)) hb); clear HB; have HB := n0_; clear n0_; (try clear hb); (try clear hb2); (try clear hk); (try clear hi); clear A16) | (go_at_call 23; (with_reducible refine (big_Add.calls kj6 t170 (wrap64 (a3)) t171 _ ?side1 A17.out).mono ?_); (case side1 => exact Go.Proofs.YtddaggnomcoejaaDoor.Room.PowTab_below HG.out (by repeat (first | (with_reducible first | exact HB.out | apply below_alloc | apply pw_below_drewN | apply below_drew1) | exact HB.out))); rintro e w69 ⟨rfl, hb⟩; have n0_ := Aside0.mk (below_step (by repeat (first | (with_reducible first | exact HB.out | apply below_alloc | apply pw_below_drewN | apply below_drew1) | exact HB.out)) hb); clear HB; have HB := n0_; clear n0_; (try clear hb); (try clear hb2); (try clear hk); (try clear hi)) | (go_at_call 23; (with_reducible refine (big_Add.calls kj6 t167 (wrap64 ((wrap64 (a2)) + (wrap64 (a3)))) t172 _ ?side1 A18.out).mono ?_); (case side1 => exact Go.Proofs.YtddaggnomcoejaaDoor.Room.PowTab_below HG.out (by repeat (first | (with_reducible first | exact HB.out | apply below_alloc | apply pw_below_drewN | apply below_drew1) | exact HB.out))); rintro e w70 ⟨rfl, hb⟩; have n0_ := Aside0.mk (below_step (by repeat (first | (with_reducible first | exact HB.out | apply below_alloc | apply pw_below_drewN | apply below_drew1) | exact HB.out)) hb); clear HB; have HB := n0_; clear n0_; (try clear hb); (try clear hb2); (try clear hk); (try clear hi)) | (go_at_call 23; (with_reducible refine (big_Add.calls kj6 t167 0 t173 _ ?side1 A20.out).mono ?_); (case side1 => exact Go.Proofs.YtddaggnomcoejaaDoor.Room.PowTab_below HG.out (by repeat (first | (with_reducible first | exact HB.out | apply below_alloc | apply pw_below_drewN | apply below_drew1) | exact HB.out))); rintro e w71 ⟨rfl, hb⟩; have n0_ := Aside0.mk (below_step (by repeat (first | (with_reducible first | exact HB.out | apply below_alloc | apply pw_below_drewN | apply below_drew1) | exact HB.out)) hb); clear HB; have HB := n0_; clear n0_; (try clear hb); (try clear hb2); (try clear hk); (try clear hi)) | (go_at_call 23; (with_reducible refine (big_Add.calls kj6 t167 1 t174 _ ?side1 A22.out).mono ?_); (case side1 => exact Go.Proofs.YtddaggnomcoejaaDoor.Room.PowTab_below HG.out (by repeat (first | (with_reducible first | exact HB.out | apply below_alloc | apply pw_below_drewN | apply below_drew1) | exact HB.out))); rintro e w72 ⟨rfl, hb⟩; have n0_ := Aside0.mk (below_step (by repeat (first | (with_reducible first | exact HB.out | apply below_alloc | apply pw_below_drewN | apply below_drew1) | exact HB.out)) hb); clear HB; have HB := n0_; clear n0_; (try clear hb); (try clear hb2); (try clear hk); (try clear hi)) | (go_at_call 25; (with_reducible refine (big_Compare.calls kj6 t174 t167 t175 _ A23.out).mono ?_); rintro e w73 ⟨rfl, hb⟩; have n0_ := Aside0.mk (below_step (by repeat (first | (with_reducible first | exact HB.out | apply below_alloc | apply pw_below_drewN | apply below_drew1) | exact HB.out)) hb); clear HB; have HB := n0_; clear n0_; (try clear hb); (try clear hb2); (try clear hk); (try clear hi)))
                  go_ret
                  exact ⟨by first | rfl | (simp [errW_none, errW_some] <;> rfl) | (simp [*, errW_none, errW_some] <;> rfl), by repeat (first | (with_reducible first | exact HB.out | apply below_alloc | apply pw_below_drewN | apply below_drew1) | exact HB.out)⟩
              · rw [if_neg c21] at H
                have c21b0 : (t173.toList == t167.toList) = false := beq_eq_false_iff_ne.mpr c21
                have c21b1 : (t173.toList != t167.toList) = true := bne_iff_ne.mpr c21
                obtain rfl := Option.some.inj H
                go_wp2_with (first | ((with_reducible refine gate_callee (f := 27) rfl ?_); refine goesL_ (some 24) rfl rfl Tryd.func27 (by kernel_rfl) rfl #[.string a0] rfl (by (try simp only [List.map_toArray, List.map_cons, List.map_nil]); first | done | rfl | (simp only [List.length_drop, List.length_take]; rfl)) ?_; (with_reducible refine (targumlaw4_digits.calls kj6 a0 t166 _ A11.out).mono ?_); rintro e w74 ⟨rfl, hb⟩; refine ⟨_, rfl, ?_⟩; have n0_ := Aside0.mk (below_step (by repeat (first | (with_reducible first | exact HB.out | apply below_alloc | apply pw_below_drewN | apply below_drew1) | exact HB.out)) hb); clear HB; have HB := n0_; clear n0_; (try clear hb); (try clear hb2); (try clear hk); (try clear hi)) | ((with_reducible refine gate_callee (f := 18) rfl ?_); refine goesL_ (some 25) rfl rfl Tryd.func18 (by kernel_rfl) rfl #[.bool a1, .string t166] rfl (by (try simp only [List.map_toArray, List.map_cons, List.map_nil]); first | done | rfl | (simp only [List.length_drop, List.length_take]; rfl)) ?_; (with_reducible refine (big_Norm.calls kj6 a1 t166 t167 _ A12.out).mono ?_); rintro e w75 ⟨rfl, hb⟩; refine ⟨_, rfl, ?_⟩; have n0_ := Aside0.mk (below_step (by repeat (first | (with_reducible first | exact HB.out | apply below_alloc | apply pw_below_drewN | apply below_drew1) | exact HB.out)) hb); clear HB; have HB := n0_; clear n0_; (try clear hb); (try clear hb2); (try clear hk); (try clear hi)) | (go_at_call 23; (with_reducible refine (big_Add.calls kj6 t167 (wrap64 (a2)) t168 _ ?side1 A13.out).mono ?_); (case side1 => exact Go.Proofs.YtddaggnomcoejaaDoor.Room.PowTab_below HG.out (by repeat (first | (with_reducible first | exact HB.out | apply below_alloc | apply pw_below_drewN | apply below_drew1) | exact HB.out))); rintro e w76 ⟨rfl, hb⟩; have n0_ := Aside0.mk (below_step (by repeat (first | (with_reducible first | exact HB.out | apply below_alloc | apply pw_below_drewN | apply below_drew1) | exact HB.out)) hb); clear HB; have HB := n0_; clear n0_; (try clear hb); (try clear hb2); (try clear hk); (try clear hi); clear A13) | (go_at_call 23; (with_reducible refine (big_Add.calls kj6 t168 (wrap64 (-(wrap64 (a2)))) t169 _ ?side1 A14.out).mono ?_); (case side1 => exact Go.Proofs.YtddaggnomcoejaaDoor.Room.PowTab_below HG.out (by repeat (first | (with_reducible first | exact HB.out | apply below_alloc | apply pw_below_drewN | apply below_drew1) | exact HB.out))); rintro e w77 ⟨rfl, hb⟩; have n0_ := Aside0.mk (below_step (by repeat (first | (with_reducible first | exact HB.out | apply below_alloc | apply pw_below_drewN | apply below_drew1) | exact HB.out)) hb); clear HB; have HB := n0_; clear n0_; (try clear hb); (try clear hb2); (try clear hk); (try clear hi)) | (go_at_call 23; (with_reducible refine (big_Add.calls kj6 t167 (wrap64 (a2)) t170 _ ?side1 A16.out).mono ?_); (case side1 => exact Go.Proofs.YtddaggnomcoejaaDoor.Room.PowTab_below HG.out (by repeat (first | (with_reducible first | exact HB.out | apply below_alloc | apply pw_below_drewN | apply below_drew1) | exact HB.out))); rintro e w78 ⟨rfl, hb⟩; have n0_ := Aside0.mk (below_step (by repeat (first | (with_reducible first | exact HB.out | apply below_alloc | apply pw_below_drewN | apply below_drew1) | exact HB.out)) hb); clear HB; have HB := n0_; clear n0_; (try clear hb); (try clear hb2); (try clear hk); (try clear hi); clear A16) | (go_at_call 23; (with_reducible refine (big_Add.calls kj6 t170 (wrap64 (a3)) t171 _ ?side1 A17.out).mono ?_); (case side1 => exact Go.Proofs.YtddaggnomcoejaaDoor.Room.PowTab_below HG.out (by repeat (first | (with_reducible first | exact HB.out | apply below_alloc | apply pw_below_drewN | apply below_drew1) | exact HB.out))); rintro e w79 ⟨rfl, hb⟩; have n0_ := Aside0.mk (below_step (by repeat (first | (with_reducible first | exact HB.out | apply below_alloc | apply pw_below_drewN | apply below_drew1) | exact HB.out)) hb); clear HB; have HB := n0_; clear n0_; (try clear hb); (try clear hb2); (try clear hk); (try clear hi)) | (go_at_call 23; (with_reducible refine (big_Add.calls kj6 t167 (wrap64 ((wrap64 (a2)) + (wrap64 (a3)))) t172 _ ?side1 A18.out).mono ?_); (case side1 => exact Go.Proofs.YtddaggnomcoejaaDoor.Room.PowTab_below HG.out (by repeat (first | (with_reducible first | exact HB.out | apply below_alloc | apply pw_below_drewN | apply below_drew1) | exact HB.out))); rintro e w80 ⟨rfl, hb⟩; have n0_ := Aside0.mk (below_step (by repeat (first | (with_reducible first | exact HB.out | apply below_alloc | apply pw_below_drewN | apply below_drew1) | exact HB.out)) hb); clear HB; have HB := n0_; clear n0_; (try clear hb); (try clear hb2); (try clear hk); (try clear hi)) | (go_at_call 23; (with_reducible refine (big_Add.calls kj6 t167 0 t173 _ ?side1 A20.out).mono ?_); (case side1 => exact Go.Proofs.YtddaggnomcoejaaDoor.Room.PowTab_below HG.out (by repeat (first | (with_reducible first | exact HB.out | apply below_alloc | apply pw_below_drewN | apply below_drew1) | exact HB.out))); rintro e w81 ⟨rfl, hb⟩; have n0_ := Aside0.mk (below_step (by repeat (first | (with_reducible first | exact HB.out | apply below_alloc | apply pw_below_drewN | apply below_drew1) | exact HB.out)) hb); clear HB; have HB := n0_; clear n0_; (try clear hb); (try clear hb2); (try clear hk); (try clear hi)))
                go_ret
                exact ⟨by first | rfl | (simp [errW_none, errW_some] <;> rfl) | (simp [*, errW_none, errW_some] <;> rfl), by repeat (first | (with_reducible first | exact HB.out | apply below_alloc | apply pw_below_drewN | apply below_drew1) | exact HB.out)⟩
            · rw [if_neg c19] at H
              have c19b0 : (t171.toList == t172.toList) = false := beq_eq_false_iff_ne.mpr c19
              have c19b1 : (t171.toList != t172.toList) = true := bne_iff_ne.mpr c19
              obtain rfl := Option.some.inj H
              go_wp2_with (first | ((with_reducible refine gate_callee (f := 27) rfl ?_); refine goesL_ (some 24) rfl rfl Tryd.func27 (by kernel_rfl) rfl #[.string a0] rfl (by (try simp only [List.map_toArray, List.map_cons, List.map_nil]); first | done | rfl | (simp only [List.length_drop, List.length_take]; rfl)) ?_; (with_reducible refine (targumlaw4_digits.calls kj6 a0 t166 _ A11.out).mono ?_); rintro e w82 ⟨rfl, hb⟩; refine ⟨_, rfl, ?_⟩; have n0_ := Aside0.mk (below_step (by repeat (first | (with_reducible first | exact HB.out | apply below_alloc | apply pw_below_drewN | apply below_drew1) | exact HB.out)) hb); clear HB; have HB := n0_; clear n0_; (try clear hb); (try clear hb2); (try clear hk); (try clear hi)) | ((with_reducible refine gate_callee (f := 18) rfl ?_); refine goesL_ (some 25) rfl rfl Tryd.func18 (by kernel_rfl) rfl #[.bool a1, .string t166] rfl (by (try simp only [List.map_toArray, List.map_cons, List.map_nil]); first | done | rfl | (simp only [List.length_drop, List.length_take]; rfl)) ?_; (with_reducible refine (big_Norm.calls kj6 a1 t166 t167 _ A12.out).mono ?_); rintro e w83 ⟨rfl, hb⟩; refine ⟨_, rfl, ?_⟩; have n0_ := Aside0.mk (below_step (by repeat (first | (with_reducible first | exact HB.out | apply below_alloc | apply pw_below_drewN | apply below_drew1) | exact HB.out)) hb); clear HB; have HB := n0_; clear n0_; (try clear hb); (try clear hb2); (try clear hk); (try clear hi)) | (go_at_call 23; (with_reducible refine (big_Add.calls kj6 t167 (wrap64 (a2)) t168 _ ?side1 A13.out).mono ?_); (case side1 => exact Go.Proofs.YtddaggnomcoejaaDoor.Room.PowTab_below HG.out (by repeat (first | (with_reducible first | exact HB.out | apply below_alloc | apply pw_below_drewN | apply below_drew1) | exact HB.out))); rintro e w84 ⟨rfl, hb⟩; have n0_ := Aside0.mk (below_step (by repeat (first | (with_reducible first | exact HB.out | apply below_alloc | apply pw_below_drewN | apply below_drew1) | exact HB.out)) hb); clear HB; have HB := n0_; clear n0_; (try clear hb); (try clear hb2); (try clear hk); (try clear hi); clear A13) | (go_at_call 23; (with_reducible refine (big_Add.calls kj6 t168 (wrap64 (-(wrap64 (a2)))) t169 _ ?side1 A14.out).mono ?_); (case side1 => exact Go.Proofs.YtddaggnomcoejaaDoor.Room.PowTab_below HG.out (by repeat (first | (with_reducible first | exact HB.out | apply below_alloc | apply pw_below_drewN | apply below_drew1) | exact HB.out))); rintro e w85 ⟨rfl, hb⟩; have n0_ := Aside0.mk (below_step (by repeat (first | (with_reducible first | exact HB.out | apply below_alloc | apply pw_below_drewN | apply below_drew1) | exact HB.out)) hb); clear HB; have HB := n0_; clear n0_; (try clear hb); (try clear hb2); (try clear hk); (try clear hi)) | (go_at_call 23; (with_reducible refine (big_Add.calls kj6 t167 (wrap64 (a2)) t170 _ ?side1 A16.out).mono ?_); (case side1 => exact Go.Proofs.YtddaggnomcoejaaDoor.Room.PowTab_below HG.out (by repeat (first | (with_reducible first | exact HB.out | apply below_alloc | apply pw_below_drewN | apply below_drew1) | exact HB.out))); rintro e w86 ⟨rfl, hb⟩; have n0_ := Aside0.mk (below_step (by repeat (first | (with_reducible first | exact HB.out | apply below_alloc | apply pw_below_drewN | apply below_drew1) | exact HB.out)) hb); clear HB; have HB := n0_; clear n0_; (try clear hb); (try clear hb2); (try clear hk); (try clear hi); clear A16) | (go_at_call 23; (with_reducible refine (big_Add.calls kj6 t170 (wrap64 (a3)) t171 _ ?side1 A17.out).mono ?_); (case side1 => exact Go.Proofs.YtddaggnomcoejaaDoor.Room.PowTab_below HG.out (by repeat (first | (with_reducible first | exact HB.out | apply below_alloc | apply pw_below_drewN | apply below_drew1) | exact HB.out))); rintro e w87 ⟨rfl, hb⟩; have n0_ := Aside0.mk (below_step (by repeat (first | (with_reducible first | exact HB.out | apply below_alloc | apply pw_below_drewN | apply below_drew1) | exact HB.out)) hb); clear HB; have HB := n0_; clear n0_; (try clear hb); (try clear hb2); (try clear hk); (try clear hi)) | (go_at_call 23; (with_reducible refine (big_Add.calls kj6 t167 (wrap64 ((wrap64 (a2)) + (wrap64 (a3)))) t172 _ ?side1 A18.out).mono ?_); (case side1 => exact Go.Proofs.YtddaggnomcoejaaDoor.Room.PowTab_below HG.out (by repeat (first | (with_reducible first | exact HB.out | apply below_alloc | apply pw_below_drewN | apply below_drew1) | exact HB.out))); rintro e w88 ⟨rfl, hb⟩; have n0_ := Aside0.mk (below_step (by repeat (first | (with_reducible first | exact HB.out | apply below_alloc | apply pw_below_drewN | apply below_drew1) | exact HB.out)) hb); clear HB; have HB := n0_; clear n0_; (try clear hb); (try clear hb2); (try clear hk); (try clear hi)))
              go_ret
              exact ⟨by first | rfl | (simp [errW_none, errW_some] <;> rfl) | (simp [*, errW_none, errW_some] <;> rfl), by repeat (first | (with_reducible first | exact HB.out | apply below_alloc | apply pw_below_drewN | apply below_drew1) | exact HB.out)⟩
          · rw [if_neg c15] at H
            have c15b0 : (t169.toList == t167.toList) = false := beq_eq_false_iff_ne.mpr c15
            have c15b1 : (t169.toList != t167.toList) = true := bne_iff_ne.mpr c15
            obtain rfl := Option.some.inj H
            go_wp2_with (first | ((with_reducible refine gate_callee (f := 27) rfl ?_); refine goesL_ (some 24) rfl rfl Tryd.func27 (by kernel_rfl) rfl #[.string a0] rfl (by (try simp only [List.map_toArray, List.map_cons, List.map_nil]); first | done | rfl | (simp only [List.length_drop, List.length_take]; rfl)) ?_; (with_reducible refine (targumlaw4_digits.calls kj6 a0 t166 _ A11.out).mono ?_); rintro e w89 ⟨rfl, hb⟩; refine ⟨_, rfl, ?_⟩; have n0_ := Aside0.mk (below_step (by repeat (first | (with_reducible first | exact HB.out | apply below_alloc | apply pw_below_drewN | apply below_drew1) | exact HB.out)) hb); clear HB; have HB := n0_; clear n0_; (try clear hb); (try clear hb2); (try clear hk); (try clear hi)) | ((with_reducible refine gate_callee (f := 18) rfl ?_); refine goesL_ (some 25) rfl rfl Tryd.func18 (by kernel_rfl) rfl #[.bool a1, .string t166] rfl (by (try simp only [List.map_toArray, List.map_cons, List.map_nil]); first | done | rfl | (simp only [List.length_drop, List.length_take]; rfl)) ?_; (with_reducible refine (big_Norm.calls kj6 a1 t166 t167 _ A12.out).mono ?_); rintro e w90 ⟨rfl, hb⟩; refine ⟨_, rfl, ?_⟩; have n0_ := Aside0.mk (below_step (by repeat (first | (with_reducible first | exact HB.out | apply below_alloc | apply pw_below_drewN | apply below_drew1) | exact HB.out)) hb); clear HB; have HB := n0_; clear n0_; (try clear hb); (try clear hb2); (try clear hk); (try clear hi)) | (go_at_call 23; (with_reducible refine (big_Add.calls kj6 t167 (wrap64 (a2)) t168 _ ?side1 A13.out).mono ?_); (case side1 => exact Go.Proofs.YtddaggnomcoejaaDoor.Room.PowTab_below HG.out (by repeat (first | (with_reducible first | exact HB.out | apply below_alloc | apply pw_below_drewN | apply below_drew1) | exact HB.out))); rintro e w91 ⟨rfl, hb⟩; have n0_ := Aside0.mk (below_step (by repeat (first | (with_reducible first | exact HB.out | apply below_alloc | apply pw_below_drewN | apply below_drew1) | exact HB.out)) hb); clear HB; have HB := n0_; clear n0_; (try clear hb); (try clear hb2); (try clear hk); (try clear hi)) | (go_at_call 23; (with_reducible refine (big_Add.calls kj6 t168 (wrap64 (-(wrap64 (a2)))) t169 _ ?side1 A14.out).mono ?_); (case side1 => exact Go.Proofs.YtddaggnomcoejaaDoor.Room.PowTab_below HG.out (by repeat (first | (with_reducible first | exact HB.out | apply below_alloc | apply pw_below_drewN | apply below_drew1) | exact HB.out))); rintro e w92 ⟨rfl, hb⟩; have n0_ := Aside0.mk (below_step (by repeat (first | (with_reducible first | exact HB.out | apply below_alloc | apply pw_below_drewN | apply below_drew1) | exact HB.out)) hb); clear HB; have HB := n0_; clear n0_; (try clear hb); (try clear hb2); (try clear hk); (try clear hi)))
            go_ret
            exact ⟨by first | rfl | (simp [errW_none, errW_some] <;> rfl) | (simp [*, errW_none, errW_some] <;> rfl), by repeat (first | (with_reducible first | exact HB.out | apply below_alloc | apply pw_below_drewN | apply below_drew1) | exact HB.out)⟩
  · replace c6 := Bool.eq_false_iff.mpr c6
    subst c6
    have H1 : (some false) = some r := by rw [if_neg (show ¬ (false = true) by decide)] at H; exact H
    clear H
    have H := H1
    clear H1
    obtain rfl := Option.some.inj H
    go_enter Tryd.func5, Tryd.ntmps5
    go_wp2_with (first | ((with_reducible refine gate_callee (f := 14) rfl ?_); refine goesL_ (some 12) rfl rfl Tryd.func14 (by kernel_rfl) rfl #[] rfl (by (try simp only [List.map_toArray, List.map_cons, List.map_nil]); first | done | rfl | (simp only [List.length_drop, List.length_take]; rfl)) ?_; (with_reducible refine (targumlaw4_known.calls k  false _ ?side1 A5.out).mono ?_); (case side1 => exact Go.Proofs.YtddaggnomcoejaaDoor.Room.PowTab_below HG.out (by repeat (first | (with_reducible first | exact HB.out | apply below_alloc | apply pw_below_drewN | apply below_drew1) | exact HB.out))); rintro e w93 ⟨rfl, hb⟩; refine ⟨_, rfl, ?_⟩; have n0_ := Aside0.mk (below_step (by repeat (first | (with_reducible first | exact HB.out | apply below_alloc | apply pw_below_drewN | apply below_drew1) | exact HB.out)) hb); clear HB; have HB := n0_; clear n0_; (try clear hb); (try clear hb2); (try clear hk); (try clear hi)))
    go_ret
    exact ⟨by first | rfl | (simp [errW_none, errW_some] <;> rfl) | (simp [*, errW_none, errW_some] <;> rfl), by repeat (first | (with_reducible first | exact HB.out | apply below_alloc | apply pw_below_drewN | apply below_drew1) | exact HB.out)⟩

/-- THE ONE PURE STATEMENT of targumlaw4_BigSums: yours. -/
def targumlaw4_BigSums.Pure : Prop := ∀ (a0 : ByteArray) (a1 : Bool) (a2 : Int) (a3 : Int), a0.size ≤ 140737488351232 → (Lit.int .i32 a2).wf = true → (Lit.int .i32 a3).wf = true → ∃ k, targumlaw4_BigSums.f k a0 a1 a2 a3 = some true
theorem targumlaw4_BigSums.walk (P : targumlaw4_BigSums.Pure) (a0 : ByteArray) (a1 : Bool) (a2 : Int) (a3 : Int) (w : World) (w0 : a0.size ≤ 140737488351232) (w2 : (Lit.int .i32 a2).wf = true) (w3 : (Lit.int .i32 a3).wf = true) (hG : Go.Proofs.YtddaggnomcoejaaDoor.Room.PowTab w) :
    Calls Tryd.prog 5 #[.string a0, .bool a1, .int .i32 a2, .int .i32 a3] w fun e w' => e = .returned (.bool true) ∧ Below w.heap.size w w' := by
  obtain ⟨k, h⟩ := P a0 a1 a2 a3 w0 w2 w3
  refine (targumlaw4_BigSums.calls k a0 a1 a2 a3 true w hG h).mono ?_
  rintro e w' ⟨rfl, hd⟩
  exact ⟨rfl, hd⟩

end Go.Proofs.YtddaggnomcoejaaDoor.PQ
