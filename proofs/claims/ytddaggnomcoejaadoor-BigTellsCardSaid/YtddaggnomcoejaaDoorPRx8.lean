/- Written by this session's own program (xprint, made over the kit's print): Lean functions with the same answers as the Go functions, and the proofs of that. Not trusted: Lean checks it. -/
import Derived.Test.YtddaggnomcoejaaDoorPRx0
import Derived.Test.YtddaggnomcoejaaDoorPRx2
import Derived.Test.YtddaggnomcoejaaDoorPRx3
import Derived.Test.YtddaggnomcoejaaDoorPRx4
import Derived.Test.YtddaggnomcoejaaDoorPRx5
import Derived.Test.YtddaggnomcoejaaDoorPRx6
import Derived.Test.YtddaggnomcoejaaDoorPRx7
namespace Go.Proofs.YtddaggnomcoejaaDoor.PR
open Go.RowKit Go.Proofs.YtddaggnomcoejaaDoorW.PrintWords Go.Proofs.YtddaggnomcoejaaDoorW.PrintLast Go.Proofs.YtddaggnomcoejaaDoorW.PrintMore
attribute [local go_sem] max2_int min2_int max_two min_two max_three min_three max_four min_four   -- for this text's walks alone
set_option linter.unusedVariables false
set_option linter.unusedSimpArgs false

/-! ### targumlaw4_BigTells: function 3 -/
mutual
def targumlaw4_BigTells.j0 : Nat → ByteArray → ByteArray → Bool → Int → Int → Int → Bool → Option (Bool)
  | 0, _, _, _, _, _, _, _ => none
  | k + 1, x0, x1, x2, x3, x4, x5, x28 => if x28 = true then (some true) else ((targumref4_Norm.f k x2 x0).bind fun t192 => ((targumref4_Norm.f k (!x2) x1).bind fun t193 => ((big_Good.f k x0).bind fun t194 => ((targumref4_Good.f k x0).bind fun t195 => (if (t194 != t195) = true then (targumlaw4_BigTells.j1 k x0 x1 x2 x3 x4 t192 t193 true) else ((big_Norm.f k x2 x0).bind fun t196 => (if t196.toList = t192.toList then ((big_Base.f k x0 x5).bind fun t197 => ((targumref4_Base.f k x0 x5).bind fun t198 => (if t197.toList = t198.toList then ((big_MulAdd.f k x0 x3 x4).bind fun t199 => ((targumref4_MulAdd.f k x0 x3 x4).bind fun t200 => (if t199.toList = t200.toList then ((big_Add.f k x0 x3).bind fun t201 => ((targumref4_Add.f k x0 x3).bind fun t202 => (if t201.toList = t202.toList then ((big_Compare.f k x0 x1).bind fun t203 => ((targumref4_Compare.f k x0 x1).bind fun t204 => (targumlaw4_BigTells.j1 k x0 x1 x2 x3 x4 t192 t193 (t203 != t204)))) else (targumlaw4_BigTells.j1 k x0 x1 x2 x3 x4 t192 t193 true)))) else (targumlaw4_BigTells.j1 k x0 x1 x2 x3 x4 t192 t193 true)))) else (targumlaw4_BigTells.j1 k x0 x1 x2 x3 x4 t192 t193 true)))) else (targumlaw4_BigTells.j1 k x0 x1 x2 x3 x4 t192 t193 true))))))))
def targumlaw4_BigTells.j1 : Nat → ByteArray → ByteArray → Bool → Int → Int → ByteArray → ByteArray → Bool → Option (Bool)
  | 0, _, _, _, _, _, _, _, _ => none
  | k + 1, x0, x1, x2, x3, x4, x13, x14, x85 => if x85 = true then (some false) else ((some (([2, 8, 16] : List Int) : List Int)).bind fun y205 => (targumlaw4_BigTells.l0 k x0 x1 x2 x13 x14 (Int.tmod x3 1000000) (Int.tmod x4 1000000) y205 (y205.length : Int) 0))
def targumlaw4_BigTells.l0 : Nat → ByteArray → ByteArray → Bool → ByteArray → ByteArray → Int → Int → List Int → Int → Int → Option (Bool)
  | 0, _, _, _, _, _, _, _, _, _, _ => none
  | k + 1, x0, x1, x2, x13, x14, x15, x16, x90, x91, x92 => if x92 < x91 then (if 0 ≤ x92 then (if x92 < (x90.length : Int) then ((big_Base.f k x0 (rd x90 x92)).bind fun t209 => ((targumref4_Base.f k x0 (rd x90 x92)).bind fun t210 => (if t209.toList = t210.toList then (targumlaw4_BigTells.l0 k x0 x1 x2 x13 x14 x15 x16 x90 x91 (wrap64 (x92 + 1))) else (some false)))) else (none)) else (none)) else ((big_MulAdd.f k x13 x15 x16).bind fun t211 => ((targumref4_MulAdd.f k x13 x15 x16).bind fun t212 => (if t211.toList = t212.toList then ((big_Add.f k x13 x15).bind fun t213 => ((targumref4_Add.f k x13 x15).bind fun t214 => (if t213.toList = t214.toList then ((big_Add.f k x14 (wrap64 (-x16))).bind fun t215 => ((targumref4_Add.f k x14 (wrap64 (-x16))).bind fun t216 => (if t215.toList = t216.toList then ((big_Compare.f k x13 x14).bind fun t217 => ((targumref4_Compare.f k x13 x14).bind fun t218 => (if t217 = t218 then ((targumref4_Norm.f k x2 x1).bind fun t219 => ((big_Compare.f k x13 t219).bind fun t220 => ((targumref4_Norm.f k x2 x1).bind fun t221 => ((targumref4_Compare.f k x13 t221).bind fun t222 => (if t220 = t222 then ((big_Good.f k x13).bind fun t223 => (some (t223 == (x13.toList != ([] : List UInt8))))) else (some false)))))) else (some false)))) else (some false)))) else (some false)))) else (some false))))
end
def targumlaw4_BigTells.f (k : Nat) (a0 : ByteArray) (a1 : ByteArray) (a2 : Bool) (a3 : Int) (a4 : Int) (a5 : Int) : Option (Bool) := (targumlaw4_known.f k).bind fun t191 => (if t191 = true then (if (a0.size : Int) > 80 then (targumlaw4_BigTells.j0 k a0 a1 a2 a3 a4 a5 true) else (targumlaw4_BigTells.j0 k a0 a1 a2 a3 a4 a5 (decide ((a1.size : Int) > 80)))) else (some false))
theorem targumlaw4_BigTells.mono_l : ∀ k, (∀ y0 y1 y2 y3 y4 y5 y6, LeO (targumlaw4_BigTells.j0 k y0 y1 y2 y3 y4 y5 y6) (targumlaw4_BigTells.j0 (k + 1) y0 y1 y2 y3 y4 y5 y6)) ∧ (∀ y0 y1 y2 y3 y4 y5 y6 y7, LeO (targumlaw4_BigTells.j1 k y0 y1 y2 y3 y4 y5 y6 y7) (targumlaw4_BigTells.j1 (k + 1) y0 y1 y2 y3 y4 y5 y6 y7)) ∧ (∀ y0 y1 y2 y3 y4 y5 y6 y7 y8 y9, LeO (targumlaw4_BigTells.l0 k y0 y1 y2 y3 y4 y5 y6 y7 y8 y9) (targumlaw4_BigTells.l0 (k + 1) y0 y1 y2 y3 y4 y5 y6 y7 y8 y9))
  | 0 => ⟨fun _ _ _ _ _ _ _ r h => by simp [targumlaw4_BigTells.j0] at h, fun _ _ _ _ _ _ _ _ r h => by simp [targumlaw4_BigTells.j1] at h, fun _ _ _ _ _ _ _ _ _ _ r h => by simp [targumlaw4_BigTells.l0] at h⟩
  | k + 1 => by
    obtain ⟨ih0, ih1, ih2⟩ := targumlaw4_BigTells.mono_l k
    refine ⟨?_, ?_, ?_⟩
    · intro y0 y1 y2 y3 y4 y5 y6
      unfold targumlaw4_BigTells.j0
      repeat' first
      | (with_reducible exact ih0 _ _ _ _ _ _ _)
      | (with_reducible exact ih1 _ _ _ _ _ _ _ _)
      | (with_reducible exact ih2 _ _ _ _ _ _ _ _ _ _)
      | (with_reducible exact big_Add.mono _ _ _)
      | (with_reducible exact big_Base.mono _ _ _)
      | (with_reducible exact big_Compare.mono _ _ _)
      | (with_reducible exact big_Good.mono _ _)
      | (with_reducible exact big_MulAdd.mono _ _ _ _)
      | (with_reducible exact big_Norm.mono _ _ _)
      | (with_reducible exact targumlaw4_known.mono _)
      | (with_reducible exact targumref4_Add.mono _ _ _)
      | (with_reducible exact targumref4_Base.mono _ _ _)
      | (with_reducible exact targumref4_Compare.mono _ _ _)
      | (with_reducible exact targumref4_Good.mono _ _)
      | (with_reducible exact targumref4_MulAdd.mono _ _ _ _)
      | (with_reducible exact targumref4_Norm.mono _ _ _)
      | (with_reducible exact LeO.refl _)
      | (with_reducible exact LeO.none _)
      | (with_reducible refine LeO.ite ?_ ?_)
      | (with_reducible refine LeO.bind ?_ (fun _ => ?_))
      | exact ih0 _ _ _ _ _ _ _
      | exact ih1 _ _ _ _ _ _ _ _
      | exact ih2 _ _ _ _ _ _ _ _ _ _
      | exact big_Add.mono _ _ _
      | exact big_Base.mono _ _ _
      | exact big_Compare.mono _ _ _
      | exact big_Good.mono _ _
      | exact big_MulAdd.mono _ _ _ _
      | exact big_Norm.mono _ _ _
      | exact targumlaw4_known.mono _
      | exact targumref4_Add.mono _ _ _
      | exact targumref4_Base.mono _ _ _
      | exact targumref4_Compare.mono _ _ _
      | exact targumref4_Good.mono _ _
      | exact targumref4_MulAdd.mono _ _ _ _
      | exact targumref4_Norm.mono _ _ _
      | exact LeO.none _
      | refine LeO.ite ?_ ?_
      | refine LeO.bind ?_ (fun _ => ?_)
    · intro y0 y1 y2 y3 y4 y5 y6 y7
      unfold targumlaw4_BigTells.j1
      repeat' first
      | (with_reducible exact ih0 _ _ _ _ _ _ _)
      | (with_reducible exact ih1 _ _ _ _ _ _ _ _)
      | (with_reducible exact ih2 _ _ _ _ _ _ _ _ _ _)
      | (with_reducible exact big_Add.mono _ _ _)
      | (with_reducible exact big_Base.mono _ _ _)
      | (with_reducible exact big_Compare.mono _ _ _)
      | (with_reducible exact big_Good.mono _ _)
      | (with_reducible exact big_MulAdd.mono _ _ _ _)
      | (with_reducible exact big_Norm.mono _ _ _)
      | (with_reducible exact targumlaw4_known.mono _)
      | (with_reducible exact targumref4_Add.mono _ _ _)
      | (with_reducible exact targumref4_Base.mono _ _ _)
      | (with_reducible exact targumref4_Compare.mono _ _ _)
      | (with_reducible exact targumref4_Good.mono _ _)
      | (with_reducible exact targumref4_MulAdd.mono _ _ _ _)
      | (with_reducible exact targumref4_Norm.mono _ _ _)
      | (with_reducible exact LeO.refl _)
      | (with_reducible exact LeO.none _)
      | (with_reducible refine LeO.ite ?_ ?_)
      | (with_reducible refine LeO.bind ?_ (fun _ => ?_))
      | exact ih0 _ _ _ _ _ _ _
      | exact ih1 _ _ _ _ _ _ _ _
      | exact ih2 _ _ _ _ _ _ _ _ _ _
      | exact big_Add.mono _ _ _
      | exact big_Base.mono _ _ _
      | exact big_Compare.mono _ _ _
      | exact big_Good.mono _ _
      | exact big_MulAdd.mono _ _ _ _
      | exact big_Norm.mono _ _ _
      | exact targumlaw4_known.mono _
      | exact targumref4_Add.mono _ _ _
      | exact targumref4_Base.mono _ _ _
      | exact targumref4_Compare.mono _ _ _
      | exact targumref4_Good.mono _ _
      | exact targumref4_MulAdd.mono _ _ _ _
      | exact targumref4_Norm.mono _ _ _
      | exact LeO.none _
      | refine LeO.ite ?_ ?_
      | refine LeO.bind ?_ (fun _ => ?_)
    · intro y0 y1 y2 y3 y4 y5 y6 y7 y8 y9
      unfold targumlaw4_BigTells.l0
      repeat' first
      | (with_reducible exact ih0 _ _ _ _ _ _ _)
      | (with_reducible exact ih1 _ _ _ _ _ _ _ _)
      | (with_reducible exact ih2 _ _ _ _ _ _ _ _ _ _)
      | (with_reducible exact big_Add.mono _ _ _)
      | (with_reducible exact big_Base.mono _ _ _)
      | (with_reducible exact big_Compare.mono _ _ _)
      | (with_reducible exact big_Good.mono _ _)
      | (with_reducible exact big_MulAdd.mono _ _ _ _)
      | (with_reducible exact big_Norm.mono _ _ _)
      | (with_reducible exact targumlaw4_known.mono _)
      | (with_reducible exact targumref4_Add.mono _ _ _)
      | (with_reducible exact targumref4_Base.mono _ _ _)
      | (with_reducible exact targumref4_Compare.mono _ _ _)
      | (with_reducible exact targumref4_Good.mono _ _)
      | (with_reducible exact targumref4_MulAdd.mono _ _ _ _)
      | (with_reducible exact targumref4_Norm.mono _ _ _)
      | (with_reducible exact LeO.refl _)
      | (with_reducible exact LeO.none _)
      | (with_reducible refine LeO.ite ?_ ?_)
      | (with_reducible refine LeO.bind ?_ (fun _ => ?_))
      | exact ih0 _ _ _ _ _ _ _
      | exact ih1 _ _ _ _ _ _ _ _
      | exact ih2 _ _ _ _ _ _ _ _ _ _
      | exact big_Add.mono _ _ _
      | exact big_Base.mono _ _ _
      | exact big_Compare.mono _ _ _
      | exact big_Good.mono _ _
      | exact big_MulAdd.mono _ _ _ _
      | exact big_Norm.mono _ _ _
      | exact targumlaw4_known.mono _
      | exact targumref4_Add.mono _ _ _
      | exact targumref4_Base.mono _ _ _
      | exact targumref4_Compare.mono _ _ _
      | exact targumref4_Good.mono _ _
      | exact targumref4_MulAdd.mono _ _ _ _
      | exact targumref4_Norm.mono _ _ _
      | exact LeO.none _
      | refine LeO.ite ?_ ?_
      | refine LeO.bind ?_ (fun _ => ?_)
theorem targumlaw4_BigTells.mono : ∀ a0 a1 a2 a3 a4 a5 k, LeO (targumlaw4_BigTells.f k a0 a1 a2 a3 a4 a5) (targumlaw4_BigTells.f (k + 1) a0 a1 a2 a3 a4 a5) := by
  intro a0 a1 a2 a3 a4 a5 k
  obtain ⟨ih0, ih1, ih2⟩ := targumlaw4_BigTells.mono_l k
  unfold targumlaw4_BigTells.f
  repeat' first
      | (with_reducible exact ih0 _ _ _ _ _ _ _)
      | (with_reducible exact ih1 _ _ _ _ _ _ _ _)
      | (with_reducible exact ih2 _ _ _ _ _ _ _ _ _ _)
      | (with_reducible exact big_Add.mono _ _ _)
      | (with_reducible exact big_Base.mono _ _ _)
      | (with_reducible exact big_Compare.mono _ _ _)
      | (with_reducible exact big_Good.mono _ _)
      | (with_reducible exact big_MulAdd.mono _ _ _ _)
      | (with_reducible exact big_Norm.mono _ _ _)
      | (with_reducible exact targumlaw4_known.mono _)
      | (with_reducible exact targumref4_Add.mono _ _ _)
      | (with_reducible exact targumref4_Base.mono _ _ _)
      | (with_reducible exact targumref4_Compare.mono _ _ _)
      | (with_reducible exact targumref4_Good.mono _ _)
      | (with_reducible exact targumref4_MulAdd.mono _ _ _ _)
      | (with_reducible exact targumref4_Norm.mono _ _ _)
      | (with_reducible exact LeO.refl _)
      | (with_reducible exact LeO.none _)
      | (with_reducible refine LeO.ite ?_ ?_)
      | (with_reducible refine LeO.bind ?_ (fun _ => ?_))
      | exact ih0 _ _ _ _ _ _ _
      | exact ih1 _ _ _ _ _ _ _ _
      | exact ih2 _ _ _ _ _ _ _ _ _ _
      | exact big_Add.mono _ _ _
      | exact big_Base.mono _ _ _
      | exact big_Compare.mono _ _ _
      | exact big_Good.mono _ _
      | exact big_MulAdd.mono _ _ _ _
      | exact big_Norm.mono _ _ _
      | exact targumlaw4_known.mono _
      | exact targumref4_Add.mono _ _ _
      | exact targumref4_Base.mono _ _ _
      | exact targumref4_Compare.mono _ _ _
      | exact targumref4_Good.mono _ _
      | exact targumref4_MulAdd.mono _ _ _ _
      | exact targumref4_Norm.mono _ _ _
      | exact LeO.none _
      | refine LeO.ite ?_ ?_
      | refine LeO.bind ?_ (fun _ => ?_)
set_option maxHeartbeats 8000000 in
set_option maxRecDepth 100000 in
theorem targumlaw4_BigTells.calls (k : Nat) (a0 : ByteArray) (a1 : ByteArray) (a2 : Bool) (a3 : Int) (a4 : Int) (a5 : Int) (r : Bool) (w : World) (hG : Go.Proofs.YtddaggnomcoejaaDoor.Room.PowTab w) (h : targumlaw4_BigTells.f k a0 a1 a2 a3 a4 a5 = some r) :
    Calls Tryd.prog 3 #[.string a0, .string a1, .bool a2, .int .i64 a3, .int .i64 a4, .int .i64 a5] w fun e w' => e = .returned (.bool r) ∧ Below w.heap.size w w' := by
  have HG := Aside0.mk hG
  clear hG
  have HB := Aside0.mk (Below.refl w.heap.size w)
  have H : ((targumlaw4_known.f k).bind fun t191 => (if t191 = true then (if (a0.size : Int) > 80 then (targumlaw4_BigTells.j0 k a0 a1 a2 a3 a4 a5 true) else (targumlaw4_BigTells.j0 k a0 a1 a2 a3 a4 a5 (decide ((a1.size : Int) > 80)))) else (some false))) = some r := h
  clear h
  replace H := Option.bind_eq_some_iff.mp H
  obtain ⟨t191, A70, H⟩ := H
  replace H : (if t191 = true then (if (a0.size : Int) > 80 then (targumlaw4_BigTells.j0 k a0 a1 a2 a3 a4 a5 true) else (targumlaw4_BigTells.j0 k a0 a1 a2 a3 a4 a5 (decide ((a1.size : Int) > 80)))) else (some false)) = some r := H
  have A7 := Aside0.mk A70
  clear A70
  by_cases c8 : t191 = true
  · subst c8
    have H1 : (if (a0.size : Int) > 80 then (targumlaw4_BigTells.j0 k a0 a1 a2 a3 a4 a5 true) else (targumlaw4_BigTells.j0 k a0 a1 a2 a3 a4 a5 (decide ((a1.size : Int) > 80)))) = some r := by rw [if_pos rfl] at H; exact H
    clear H
    have H := H1
    clear H1
    have HC9 := Aside0.mk H
    clear H
    go_enter Tryd.func3, Tryd.ntmps3
    go_upto_region 3 with (first | ((with_reducible refine gate_callee (f := 14) rfl ?_); refine goesL_ (some 19) rfl rfl Tryd.func14 (by kernel_rfl) rfl #[] rfl (by (try simp only [List.map_toArray, List.map_cons, List.map_nil]); first | done | rfl | (simp only [List.length_drop, List.length_take]; rfl)) ?_; (with_reducible refine (targumlaw4_known.calls k  true _ ?side1 A7.out).mono ?_); (case side1 => exact Go.Proofs.YtddaggnomcoejaaDoor.Room.PowTab_below HG.out (by repeat (first | (with_reducible first | exact HB.out | apply below_alloc | apply pw_below_drewN | apply below_drew1) | exact HB.out))); rintro e w10 ⟨rfl, hb⟩; refine ⟨_, rfl, ?_⟩; have n0_ := Aside0.mk (below_step (by repeat (first | (with_reducible first | exact HB.out | apply below_alloc | apply pw_below_drewN | apply below_drew1) | exact HB.out)) hb); clear HB; have HB := n0_; clear n0_; (try clear hb); (try clear hb2); (try clear hk); (try clear hi)))
    (try simp only [Act.put, List.setIfInBounds_toArray, List.set_cons_zero, List.set_cons_succ])
    go_cut [28] (fun v28 wc => ∃ (kq : Nat) (x28_8 : Bool), v28 = .bool x28_8 ∧ Aside0 (targumlaw4_BigTells.j0 kq a0 a1 a2 a3 a4 a5 x28_8 = some r) ∧ Aside0 (kq ≤ k) ∧ Aside0 (Below w.heap.size w wc))
    case first =>
      have H := HC9.out
      clear HC9
      by_cases c11 : (a0.size : Int) > 80
      · rw [if_pos c11] at H
        have c11b0 : decide (80 < (a0.size : Int)) = true := decide_eq_true c11
        have c11b1 : decide (80 < a0.size) = true := decide_eq_true (by omega)
        clear c11
        (first | rw [c11b0] | (simp only [i64_w, i32_w]; rw [c11b0]) | skip)
        have H' := Aside0.mk H
        clear H
        go_wp2
        go_meet
        case rel => exact ⟨_, (true), (by first | rfl | (simp; done) | (simp [*]; done) | (simp [wrap64]; done)), H', ⟨by first | omega | exact Nat.le_refl _⟩, ⟨by repeat (first | (with_reducible first | exact HB.out | apply below_alloc | apply pw_below_drewN | apply below_drew1) | exact HB.out)⟩⟩
      · rw [if_neg c11] at H
        have c11b0 : decide (80 < (a0.size : Int)) = false := decide_eq_false c11
        have c11b1 : decide (80 < a0.size) = false := decide_eq_false (by omega)
        clear c11
        (first | rw [c11b0] | (simp only [i64_w, i32_w]; rw [c11b0]) | skip)
        have H' := Aside0.mk H
        clear H
        go_wp2
        go_meet
        case rel => exact ⟨_, (decide ((a1.size : Int) > 80)), (by first | rfl | (simp; done) | (simp [*]; done) | (simp [wrap64]; done)), H', ⟨by first | omega | exact Nat.le_refl _⟩, ⟨by repeat (first | (with_reducible first | exact HB.out | apply below_alloc | apply pw_below_drewN | apply below_drew1) | exact HB.out)⟩⟩
    case rest =>
      clear HC9
      try clear c1
      try clear p2
      try clear c3
      try clear c8
      try clear c11
      try clear c11b0
      try clear c11b1
      obtain ⟨kq, x28_8, rfl, HA, HJ8, HB⟩ := hcut
      cases kq with
      | zero => exact absurd HA.out (by simp [targumlaw4_BigTells.j0])
      | succ kj8 =>
        have H := HA.out
        clear HA
        simp only [targumlaw4_BigTells.j0] at H
        by_cases c12 : x28_8 = true
        · subst c12
          have H1 : (some true) = some r := by rw [if_pos rfl] at H; exact H
          clear H
          have H := H1
          clear H1
          obtain rfl := Option.some.inj H
          go_wp2
          go_ret
          exact ⟨by first | rfl | (simp [errW_none, errW_some] <;> rfl) | (simp [*, errW_none, errW_some] <;> rfl) | ((generalize ByteArray.toList _ = z_); cases z_ <;> first | rfl | (simp; done)), by repeat (first | (with_reducible first | exact HB.out | apply below_alloc | apply pw_below_drewN | apply below_drew1) | exact HB.out)⟩
        · replace c12 := Bool.eq_false_iff.mpr c12
          subst c12
          have H1 : ((targumref4_Norm.f kj8 a2 a0).bind fun t192 => ((targumref4_Norm.f kj8 (!a2) a1).bind fun t193 => ((big_Good.f kj8 a0).bind fun t194 => ((targumref4_Good.f kj8 a0).bind fun t195 => (if (t194 != t195) = true then (targumlaw4_BigTells.j1 kj8 a0 a1 a2 a3 a4 t192 t193 true) else ((big_Norm.f kj8 a2 a0).bind fun t196 => (if t196.toList = t192.toList then ((big_Base.f kj8 a0 a5).bind fun t197 => ((targumref4_Base.f kj8 a0 a5).bind fun t198 => (if t197.toList = t198.toList then ((big_MulAdd.f kj8 a0 a3 a4).bind fun t199 => ((targumref4_MulAdd.f kj8 a0 a3 a4).bind fun t200 => (if t199.toList = t200.toList then ((big_Add.f kj8 a0 a3).bind fun t201 => ((targumref4_Add.f kj8 a0 a3).bind fun t202 => (if t201.toList = t202.toList then ((big_Compare.f kj8 a0 a1).bind fun t203 => ((targumref4_Compare.f kj8 a0 a1).bind fun t204 => (targumlaw4_BigTells.j1 kj8 a0 a1 a2 a3 a4 t192 t193 (t203 != t204)))) else (targumlaw4_BigTells.j1 kj8 a0 a1 a2 a3 a4 t192 t193 true)))) else (targumlaw4_BigTells.j1 kj8 a0 a1 a2 a3 a4 t192 t193 true)))) else (targumlaw4_BigTells.j1 kj8 a0 a1 a2 a3 a4 t192 t193 true)))) else (targumlaw4_BigTells.j1 kj8 a0 a1 a2 a3 a4 t192 t193 true)))))))) = some r := by rw [if_neg (show ¬ (false = true) by decide)] at H; exact H
          clear H
          have H := H1
          clear H1
          replace H := Option.bind_eq_some_iff.mp H
          obtain ⟨t192, A130, H⟩ := H
          replace H : ((targumref4_Norm.f kj8 (!a2) a1).bind fun t193 => ((big_Good.f kj8 a0).bind fun t194 => ((targumref4_Good.f kj8 a0).bind fun t195 => (if (t194 != t195) = true then (targumlaw4_BigTells.j1 kj8 a0 a1 a2 a3 a4 t192 t193 true) else ((big_Norm.f kj8 a2 a0).bind fun t196 => (if t196.toList = t192.toList then ((big_Base.f kj8 a0 a5).bind fun t197 => ((targumref4_Base.f kj8 a0 a5).bind fun t198 => (if t197.toList = t198.toList then ((big_MulAdd.f kj8 a0 a3 a4).bind fun t199 => ((targumref4_MulAdd.f kj8 a0 a3 a4).bind fun t200 => (if t199.toList = t200.toList then ((big_Add.f kj8 a0 a3).bind fun t201 => ((targumref4_Add.f kj8 a0 a3).bind fun t202 => (if t201.toList = t202.toList then ((big_Compare.f kj8 a0 a1).bind fun t203 => ((targumref4_Compare.f kj8 a0 a1).bind fun t204 => (targumlaw4_BigTells.j1 kj8 a0 a1 a2 a3 a4 t192 t193 (t203 != t204)))) else (targumlaw4_BigTells.j1 kj8 a0 a1 a2 a3 a4 t192 t193 true)))) else (targumlaw4_BigTells.j1 kj8 a0 a1 a2 a3 a4 t192 t193 true)))) else (targumlaw4_BigTells.j1 kj8 a0 a1 a2 a3 a4 t192 t193 true)))) else (targumlaw4_BigTells.j1 kj8 a0 a1 a2 a3 a4 t192 t193 true))))))) = some r := H
          have A13 := Aside0.mk A130
          clear A130
          replace H := Option.bind_eq_some_iff.mp H
          obtain ⟨t193, A140, H⟩ := H
          replace H : ((big_Good.f kj8 a0).bind fun t194 => ((targumref4_Good.f kj8 a0).bind fun t195 => (if (t194 != t195) = true then (targumlaw4_BigTells.j1 kj8 a0 a1 a2 a3 a4 t192 t193 true) else ((big_Norm.f kj8 a2 a0).bind fun t196 => (if t196.toList = t192.toList then ((big_Base.f kj8 a0 a5).bind fun t197 => ((targumref4_Base.f kj8 a0 a5).bind fun t198 => (if t197.toList = t198.toList then ((big_MulAdd.f kj8 a0 a3 a4).bind fun t199 => ((targumref4_MulAdd.f kj8 a0 a3 a4).bind fun t200 => (if t199.toList = t200.toList then ((big_Add.f kj8 a0 a3).bind fun t201 => ((targumref4_Add.f kj8 a0 a3).bind fun t202 => (if t201.toList = t202.toList then ((big_Compare.f kj8 a0 a1).bind fun t203 => ((targumref4_Compare.f kj8 a0 a1).bind fun t204 => (targumlaw4_BigTells.j1 kj8 a0 a1 a2 a3 a4 t192 t193 (t203 != t204)))) else (targumlaw4_BigTells.j1 kj8 a0 a1 a2 a3 a4 t192 t193 true)))) else (targumlaw4_BigTells.j1 kj8 a0 a1 a2 a3 a4 t192 t193 true)))) else (targumlaw4_BigTells.j1 kj8 a0 a1 a2 a3 a4 t192 t193 true)))) else (targumlaw4_BigTells.j1 kj8 a0 a1 a2 a3 a4 t192 t193 true)))))) = some r := H
          have A14 := Aside0.mk A140
          clear A140
          have HC15 := Aside0.mk H
          clear H
          go_upto_region 6 with (first | ((with_reducible refine gate_callee (f := 15) rfl ?_); refine goesL_ (some 31) rfl rfl Tryd.func15 (by kernel_rfl) rfl #[.bool a2, .string a0] rfl (by (try simp only [List.map_toArray, List.map_cons, List.map_nil]); first | done | rfl | (simp only [List.length_drop, List.length_take]; rfl)) ?_; (with_reducible refine (targumref4_Norm.calls kj8 a2 a0 t192 _ A13.out).mono ?_); rintro e w' ⟨rfl, ⟨nd, rfl⟩⟩; refine ⟨_, rfl, ?_⟩) | ((with_reducible refine gate_callee (f := 15) rfl ?_); refine goesL_ (some 35) rfl rfl Tryd.func15 (by kernel_rfl) rfl #[.bool (!a2), .string a1] rfl (by (try simp only [List.map_toArray, List.map_cons, List.map_nil]); first | done | rfl | (simp only [List.length_drop, List.length_take]; rfl)) ?_; (with_reducible refine (targumref4_Norm.calls kj8 (!a2) a1 t193 _ A14.out).mono ?_); rintro e w' ⟨rfl, ⟨nd, rfl⟩⟩; refine ⟨_, rfl, ?_⟩))
          (try simp only [Act.put, List.setIfInBounds_toArray, List.set_cons_zero, List.set_cons_succ])
          go_cut [85] (fun v85 wc => ∃ (kq : Nat) (x85_14 : Bool), v85 = .bool x85_14 ∧ Aside0 (targumlaw4_BigTells.j1 kq a0 a1 a2 a3 a4 t192 t193 x85_14 = some r) ∧ Aside0 (kq ≤ kj8) ∧ Aside0 (Below w.heap.size w wc))
          case first =>
            have H := HC15.out
            clear HC15
            replace H := Option.bind_eq_some_iff.mp H
            obtain ⟨t194, A160, H⟩ := H
            replace H : ((targumref4_Good.f kj8 a0).bind fun t195 => (if (t194 != t195) = true then (targumlaw4_BigTells.j1 kj8 a0 a1 a2 a3 a4 t192 t193 true) else ((big_Norm.f kj8 a2 a0).bind fun t196 => (if t196.toList = t192.toList then ((big_Base.f kj8 a0 a5).bind fun t197 => ((targumref4_Base.f kj8 a0 a5).bind fun t198 => (if t197.toList = t198.toList then ((big_MulAdd.f kj8 a0 a3 a4).bind fun t199 => ((targumref4_MulAdd.f kj8 a0 a3 a4).bind fun t200 => (if t199.toList = t200.toList then ((big_Add.f kj8 a0 a3).bind fun t201 => ((targumref4_Add.f kj8 a0 a3).bind fun t202 => (if t201.toList = t202.toList then ((big_Compare.f kj8 a0 a1).bind fun t203 => ((targumref4_Compare.f kj8 a0 a1).bind fun t204 => (targumlaw4_BigTells.j1 kj8 a0 a1 a2 a3 a4 t192 t193 (t203 != t204)))) else (targumlaw4_BigTells.j1 kj8 a0 a1 a2 a3 a4 t192 t193 true)))) else (targumlaw4_BigTells.j1 kj8 a0 a1 a2 a3 a4 t192 t193 true)))) else (targumlaw4_BigTells.j1 kj8 a0 a1 a2 a3 a4 t192 t193 true)))) else (targumlaw4_BigTells.j1 kj8 a0 a1 a2 a3 a4 t192 t193 true))))) = some r := H
            have A16 := Aside0.mk A160
            clear A160
            replace H := Option.bind_eq_some_iff.mp H
            obtain ⟨t195, A170, H⟩ := H
            replace H : (if (t194 != t195) = true then (targumlaw4_BigTells.j1 kj8 a0 a1 a2 a3 a4 t192 t193 true) else ((big_Norm.f kj8 a2 a0).bind fun t196 => (if t196.toList = t192.toList then ((big_Base.f kj8 a0 a5).bind fun t197 => ((targumref4_Base.f kj8 a0 a5).bind fun t198 => (if t197.toList = t198.toList then ((big_MulAdd.f kj8 a0 a3 a4).bind fun t199 => ((targumref4_MulAdd.f kj8 a0 a3 a4).bind fun t200 => (if t199.toList = t200.toList then ((big_Add.f kj8 a0 a3).bind fun t201 => ((targumref4_Add.f kj8 a0 a3).bind fun t202 => (if t201.toList = t202.toList then ((big_Compare.f kj8 a0 a1).bind fun t203 => ((targumref4_Compare.f kj8 a0 a1).bind fun t204 => (targumlaw4_BigTells.j1 kj8 a0 a1 a2 a3 a4 t192 t193 (t203 != t204)))) else (targumlaw4_BigTells.j1 kj8 a0 a1 a2 a3 a4 t192 t193 true)))) else (targumlaw4_BigTells.j1 kj8 a0 a1 a2 a3 a4 t192 t193 true)))) else (targumlaw4_BigTells.j1 kj8 a0 a1 a2 a3 a4 t192 t193 true)))) else (targumlaw4_BigTells.j1 kj8 a0 a1 a2 a3 a4 t192 t193 true)))) = some r := H
            have A17 := Aside0.mk A170
            clear A170
            by_cases c18 : (t194 != t195) = true
            · rw [if_pos c18] at H
              have c18b0 : (t194 != t195) = true := c18
              (try (have c18b1 : decide (t194 = t195) = false := by simpa using c18))
              (try (have c18b2 : (t194 == t195) = false := by simpa using c18))
              (try (have c18b3 : ¬ (t194 = t195) := by simpa using c18))
              clear c18
              (first | rw [c18b0] | (simp only [i64_w, i32_w]; rw [c18b0]) | skip)
              have H' := Aside0.mk H
              clear H
              go_wp2_with (first | (go_at_call 16; (try (rename_i hK_; simp only [List.append] at hK_)); (with_reducible refine (big_Good.calls kj8 a0 t194 _ A16.out).mono ?_); rintro e w' ⟨rfl, ⟨nd, rfl⟩⟩) | (go_at_call 17; (try (rename_i hK_; simp only [List.append] at hK_)); (with_reducible refine (targumref4_Good.calls kj8 a0 t195 _ A17.out).mono ?_); rintro e w' ⟨rfl, ⟨nd, rfl⟩⟩))
              go_meet
              case rel => exact ⟨_, (true), (by first | rfl | (simp; done) | (simp [*]; done) | (simp [wrap64]; done)), H', ⟨by have := HJ8.out; first | omega | exact Nat.le_refl _⟩, ⟨by repeat (first | (with_reducible first | exact HB.out | apply below_alloc | apply pw_below_drewN | apply below_drew1) | exact HB.out)⟩⟩
            · rw [if_neg c18] at H
              have c18b0 : (t194 != t195) = false := by simpa using c18
              (try (have c18b1 : decide (t194 = t195) = true := by simpa using c18))
              (try (have c18b2 : (t194 == t195) = true := by simpa using c18))
              clear c18
              (first | rw [c18b0] | (simp only [i64_w, i32_w]; rw [c18b0]) | skip)
              replace H := Option.bind_eq_some_iff.mp H
              obtain ⟨t196, A190, H⟩ := H
              replace H : (if t196.toList = t192.toList then ((big_Base.f kj8 a0 a5).bind fun t197 => ((targumref4_Base.f kj8 a0 a5).bind fun t198 => (if t197.toList = t198.toList then ((big_MulAdd.f kj8 a0 a3 a4).bind fun t199 => ((targumref4_MulAdd.f kj8 a0 a3 a4).bind fun t200 => (if t199.toList = t200.toList then ((big_Add.f kj8 a0 a3).bind fun t201 => ((targumref4_Add.f kj8 a0 a3).bind fun t202 => (if t201.toList = t202.toList then ((big_Compare.f kj8 a0 a1).bind fun t203 => ((targumref4_Compare.f kj8 a0 a1).bind fun t204 => (targumlaw4_BigTells.j1 kj8 a0 a1 a2 a3 a4 t192 t193 (t203 != t204)))) else (targumlaw4_BigTells.j1 kj8 a0 a1 a2 a3 a4 t192 t193 true)))) else (targumlaw4_BigTells.j1 kj8 a0 a1 a2 a3 a4 t192 t193 true)))) else (targumlaw4_BigTells.j1 kj8 a0 a1 a2 a3 a4 t192 t193 true)))) else (targumlaw4_BigTells.j1 kj8 a0 a1 a2 a3 a4 t192 t193 true)) = some r := H
              have A19 := Aside0.mk A190
              clear A190
              by_cases c20 : t196.toList = t192.toList
              · rw [if_pos c20] at H
                have c20b0 : (t196.toList == t192.toList) = true := beq_iff_eq.mpr c20
                have c20b1 : (t196.toList != t192.toList) = false := bne_eq_false_iff_eq.mpr c20
                clear c20
                replace H := Option.bind_eq_some_iff.mp H
                obtain ⟨t197, A210, H⟩ := H
                replace H : ((targumref4_Base.f kj8 a0 a5).bind fun t198 => (if t197.toList = t198.toList then ((big_MulAdd.f kj8 a0 a3 a4).bind fun t199 => ((targumref4_MulAdd.f kj8 a0 a3 a4).bind fun t200 => (if t199.toList = t200.toList then ((big_Add.f kj8 a0 a3).bind fun t201 => ((targumref4_Add.f kj8 a0 a3).bind fun t202 => (if t201.toList = t202.toList then ((big_Compare.f kj8 a0 a1).bind fun t203 => ((targumref4_Compare.f kj8 a0 a1).bind fun t204 => (targumlaw4_BigTells.j1 kj8 a0 a1 a2 a3 a4 t192 t193 (t203 != t204)))) else (targumlaw4_BigTells.j1 kj8 a0 a1 a2 a3 a4 t192 t193 true)))) else (targumlaw4_BigTells.j1 kj8 a0 a1 a2 a3 a4 t192 t193 true)))) else (targumlaw4_BigTells.j1 kj8 a0 a1 a2 a3 a4 t192 t193 true))) = some r := H
                have A21 := Aside0.mk A210
                clear A210
                replace H := Option.bind_eq_some_iff.mp H
                obtain ⟨t198, A220, H⟩ := H
                replace H : (if t197.toList = t198.toList then ((big_MulAdd.f kj8 a0 a3 a4).bind fun t199 => ((targumref4_MulAdd.f kj8 a0 a3 a4).bind fun t200 => (if t199.toList = t200.toList then ((big_Add.f kj8 a0 a3).bind fun t201 => ((targumref4_Add.f kj8 a0 a3).bind fun t202 => (if t201.toList = t202.toList then ((big_Compare.f kj8 a0 a1).bind fun t203 => ((targumref4_Compare.f kj8 a0 a1).bind fun t204 => (targumlaw4_BigTells.j1 kj8 a0 a1 a2 a3 a4 t192 t193 (t203 != t204)))) else (targumlaw4_BigTells.j1 kj8 a0 a1 a2 a3 a4 t192 t193 true)))) else (targumlaw4_BigTells.j1 kj8 a0 a1 a2 a3 a4 t192 t193 true)))) else (targumlaw4_BigTells.j1 kj8 a0 a1 a2 a3 a4 t192 t193 true)) = some r := H
                have A22 := Aside0.mk A220
                clear A220
                by_cases c23 : t197.toList = t198.toList
                · rw [if_pos c23] at H
                  have c23b0 : (t197.toList == t198.toList) = true := beq_iff_eq.mpr c23
                  have c23b1 : (t197.toList != t198.toList) = false := bne_eq_false_iff_eq.mpr c23
                  clear c23
                  replace H := Option.bind_eq_some_iff.mp H
                  obtain ⟨t199, A240, H⟩ := H
                  replace H : ((targumref4_MulAdd.f kj8 a0 a3 a4).bind fun t200 => (if t199.toList = t200.toList then ((big_Add.f kj8 a0 a3).bind fun t201 => ((targumref4_Add.f kj8 a0 a3).bind fun t202 => (if t201.toList = t202.toList then ((big_Compare.f kj8 a0 a1).bind fun t203 => ((targumref4_Compare.f kj8 a0 a1).bind fun t204 => (targumlaw4_BigTells.j1 kj8 a0 a1 a2 a3 a4 t192 t193 (t203 != t204)))) else (targumlaw4_BigTells.j1 kj8 a0 a1 a2 a3 a4 t192 t193 true)))) else (targumlaw4_BigTells.j1 kj8 a0 a1 a2 a3 a4 t192 t193 true))) = some r := H
                  have A24 := Aside0.mk A240
                  clear A240
                  replace H := Option.bind_eq_some_iff.mp H
                  obtain ⟨t200, A250, H⟩ := H
                  replace H : (if t199.toList = t200.toList then ((big_Add.f kj8 a0 a3).bind fun t201 => ((targumref4_Add.f kj8 a0 a3).bind fun t202 => (if t201.toList = t202.toList then ((big_Compare.f kj8 a0 a1).bind fun t203 => ((targumref4_Compare.f kj8 a0 a1).bind fun t204 => (targumlaw4_BigTells.j1 kj8 a0 a1 a2 a3 a4 t192 t193 (t203 != t204)))) else (targumlaw4_BigTells.j1 kj8 a0 a1 a2 a3 a4 t192 t193 true)))) else (targumlaw4_BigTells.j1 kj8 a0 a1 a2 a3 a4 t192 t193 true)) = some r := H
                  have A25 := Aside0.mk A250
                  clear A250
                  by_cases c26 : t199.toList = t200.toList
                  · rw [if_pos c26] at H
                    have c26b0 : (t199.toList == t200.toList) = true := beq_iff_eq.mpr c26
                    have c26b1 : (t199.toList != t200.toList) = false := bne_eq_false_iff_eq.mpr c26
                    clear c26
                    replace H := Option.bind_eq_some_iff.mp H
                    obtain ⟨t201, A270, H⟩ := H
                    replace H : ((targumref4_Add.f kj8 a0 a3).bind fun t202 => (if t201.toList = t202.toList then ((big_Compare.f kj8 a0 a1).bind fun t203 => ((targumref4_Compare.f kj8 a0 a1).bind fun t204 => (targumlaw4_BigTells.j1 kj8 a0 a1 a2 a3 a4 t192 t193 (t203 != t204)))) else (targumlaw4_BigTells.j1 kj8 a0 a1 a2 a3 a4 t192 t193 true))) = some r := H
                    have A27 := Aside0.mk A270
                    clear A270
                    replace H := Option.bind_eq_some_iff.mp H
                    obtain ⟨t202, A280, H⟩ := H
                    replace H : (if t201.toList = t202.toList then ((big_Compare.f kj8 a0 a1).bind fun t203 => ((targumref4_Compare.f kj8 a0 a1).bind fun t204 => (targumlaw4_BigTells.j1 kj8 a0 a1 a2 a3 a4 t192 t193 (t203 != t204)))) else (targumlaw4_BigTells.j1 kj8 a0 a1 a2 a3 a4 t192 t193 true)) = some r := H
                    have A28 := Aside0.mk A280
                    clear A280
                    by_cases c29 : t201.toList = t202.toList
                    · rw [if_pos c29] at H
                      have c29b0 : (t201.toList == t202.toList) = true := beq_iff_eq.mpr c29
                      have c29b1 : (t201.toList != t202.toList) = false := bne_eq_false_iff_eq.mpr c29
                      clear c29
                      replace H := Option.bind_eq_some_iff.mp H
                      obtain ⟨t203, A300, H⟩ := H
                      replace H : ((targumref4_Compare.f kj8 a0 a1).bind fun t204 => (targumlaw4_BigTells.j1 kj8 a0 a1 a2 a3 a4 t192 t193 (t203 != t204))) = some r := H
                      have A30 := Aside0.mk A300
                      clear A300
                      replace H := Option.bind_eq_some_iff.mp H
                      obtain ⟨t204, A310, H⟩ := H
                      replace H : (targumlaw4_BigTells.j1 kj8 a0 a1 a2 a3 a4 t192 t193 (t203 != t204)) = some r := H
                      have A31 := Aside0.mk A310
                      clear A310
                      have H' := Aside0.mk H
                      clear H
                      go_wp2_with (first | (go_at_call 16; (try (rename_i hK_; simp only [List.append] at hK_)); (with_reducible refine (big_Good.calls kj8 a0 t194 _ A16.out).mono ?_); rintro e w' ⟨rfl, ⟨nd, rfl⟩⟩) | (go_at_call 17; (try (rename_i hK_; simp only [List.append] at hK_)); (with_reducible refine (targumref4_Good.calls kj8 a0 t195 _ A17.out).mono ?_); rintro e w' ⟨rfl, ⟨nd, rfl⟩⟩) | (go_at_call 18; (try (rename_i hK_; simp only [List.append] at hK_)); (with_reducible refine (big_Norm.calls kj8 a2 a0 t196 _ A19.out).mono ?_); rintro e w32 ⟨rfl, hb⟩; have n0_ := Aside0.mk (below_step (by repeat (first | (with_reducible first | exact HB.out | apply below_alloc | apply pw_below_drewN | apply below_drew1) | exact HB.out)) hb); clear HB; have HB := n0_; clear n0_; (try clear hb); (try clear hb2); (try clear hk); (try clear hi)) | (go_at_call 19; (try (rename_i hK_; simp only [List.append] at hK_)); (with_reducible refine (big_Base.calls kj8 a0 a5 t197 _ ?side1 A21.out).mono ?_); (case side1 => exact Go.Proofs.YtddaggnomcoejaaDoor.Room.PowTab_below HG.out (by repeat (first | (with_reducible first | exact HB.out | apply below_alloc | apply pw_below_drewN | apply below_drew1) | exact HB.out))); rintro e w33 ⟨rfl, hb⟩; have n0_ := Aside0.mk (below_step (by repeat (first | (with_reducible first | exact HB.out | apply below_alloc | apply pw_below_drewN | apply below_drew1) | exact HB.out)) hb); clear HB; have HB := n0_; clear n0_; (try clear hb); (try clear hb2); (try clear hk); (try clear hi)) | (go_at_call 20; (try (rename_i hK_; simp only [List.append] at hK_)); (with_reducible refine (targumref4_Base.calls kj8 a0 a5 t198 _ A22.out).mono ?_); rintro e w34 ⟨rfl, hb⟩; have n0_ := Aside0.mk (below_step (by repeat (first | (with_reducible first | exact HB.out | apply below_alloc | apply pw_below_drewN | apply below_drew1) | exact HB.out)) hb); clear HB; have HB := n0_; clear n0_; (try clear hb); (try clear hb2); (try clear hk); (try clear hi)) | (go_at_call 21; (try (rename_i hK_; simp only [List.append] at hK_)); (with_reducible refine (big_MulAdd.calls kj8 a0 a3 a4 t199 _ ?side1 A24.out).mono ?_); (case side1 => exact Go.Proofs.YtddaggnomcoejaaDoor.Room.PowTab_below HG.out (by repeat (first | (with_reducible first | exact HB.out | apply below_alloc | apply pw_below_drewN | apply below_drew1) | exact HB.out))); rintro e w35 ⟨rfl, hb⟩; have n0_ := Aside0.mk (below_step (by repeat (first | (with_reducible first | exact HB.out | apply below_alloc | apply pw_below_drewN | apply below_drew1) | exact HB.out)) hb); clear HB; have HB := n0_; clear n0_; (try clear hb); (try clear hb2); (try clear hk); (try clear hi)) | (go_at_call 22; (try (rename_i hK_; simp only [List.append] at hK_)); (with_reducible refine (targumref4_MulAdd.calls kj8 a0 a3 a4 t200 _ A25.out).mono ?_); rintro e w36 ⟨rfl, hb⟩; have n0_ := Aside0.mk (below_step (by repeat (first | (with_reducible first | exact HB.out | apply below_alloc | apply pw_below_drewN | apply below_drew1) | exact HB.out)) hb); clear HB; have HB := n0_; clear n0_; (try clear hb); (try clear hb2); (try clear hk); (try clear hi)) | (go_at_call 23; (try (rename_i hK_; simp only [List.append] at hK_)); (with_reducible refine (big_Add.calls kj8 a0 a3 t201 _ ?side1 A27.out).mono ?_); (case side1 => exact Go.Proofs.YtddaggnomcoejaaDoor.Room.PowTab_below HG.out (by repeat (first | (with_reducible first | exact HB.out | apply below_alloc | apply pw_below_drewN | apply below_drew1) | exact HB.out))); rintro e w37 ⟨rfl, hb⟩; have n0_ := Aside0.mk (below_step (by repeat (first | (with_reducible first | exact HB.out | apply below_alloc | apply pw_below_drewN | apply below_drew1) | exact HB.out)) hb); clear HB; have HB := n0_; clear n0_; (try clear hb); (try clear hb2); (try clear hk); (try clear hi)) | (go_at_call 24; (try (rename_i hK_; simp only [List.append] at hK_)); (with_reducible refine (targumref4_Add.calls kj8 a0 a3 t202 _ A28.out).mono ?_); rintro e w38 ⟨rfl, hb⟩; have n0_ := Aside0.mk (below_step (by repeat (first | (with_reducible first | exact HB.out | apply below_alloc | apply pw_below_drewN | apply below_drew1) | exact HB.out)) hb); clear HB; have HB := n0_; clear n0_; (try clear hb); (try clear hb2); (try clear hk); (try clear hi)) | (go_at_call 25; (try (rename_i hK_; simp only [List.append] at hK_)); (with_reducible refine (big_Compare.calls kj8 a0 a1 t203 _ A30.out).mono ?_); rintro e w39 ⟨rfl, hb⟩; have n0_ := Aside0.mk (below_step (by repeat (first | (with_reducible first | exact HB.out | apply below_alloc | apply pw_below_drewN | apply below_drew1) | exact HB.out)) hb); clear HB; have HB := n0_; clear n0_; (try clear hb); (try clear hb2); (try clear hk); (try clear hi)) | (go_at_call 26; (try (rename_i hK_; simp only [List.append] at hK_)); (with_reducible refine (targumref4_Compare.calls kj8 a0 a1 t204 _ A31.out).mono ?_); rintro e w' ⟨rfl, ⟨nd, rfl⟩⟩))
                      go_meet
                      case rel => exact ⟨_, ((t203 != t204)), (by first | rfl | (simp; done) | (simp [*]; done) | (simp [wrap64]; done)), H', ⟨by have := HJ8.out; first | omega | exact Nat.le_refl _⟩, ⟨by repeat (first | (with_reducible first | exact HB.out | apply below_alloc | apply pw_below_drewN | apply below_drew1) | exact HB.out)⟩⟩
                    · rw [if_neg c29] at H
                      have c29b0 : (t201.toList == t202.toList) = false := beq_eq_false_iff_ne.mpr c29
                      have c29b1 : (t201.toList != t202.toList) = true := bne_iff_ne.mpr c29
                      have H' := Aside0.mk H
                      clear H
                      go_wp2_with (first | (go_at_call 16; (try (rename_i hK_; simp only [List.append] at hK_)); (with_reducible refine (big_Good.calls kj8 a0 t194 _ A16.out).mono ?_); rintro e w' ⟨rfl, ⟨nd, rfl⟩⟩) | (go_at_call 17; (try (rename_i hK_; simp only [List.append] at hK_)); (with_reducible refine (targumref4_Good.calls kj8 a0 t195 _ A17.out).mono ?_); rintro e w' ⟨rfl, ⟨nd, rfl⟩⟩) | (go_at_call 18; (try (rename_i hK_; simp only [List.append] at hK_)); (with_reducible refine (big_Norm.calls kj8 a2 a0 t196 _ A19.out).mono ?_); rintro e w40 ⟨rfl, hb⟩; have n0_ := Aside0.mk (below_step (by repeat (first | (with_reducible first | exact HB.out | apply below_alloc | apply pw_below_drewN | apply below_drew1) | exact HB.out)) hb); clear HB; have HB := n0_; clear n0_; (try clear hb); (try clear hb2); (try clear hk); (try clear hi)) | (go_at_call 19; (try (rename_i hK_; simp only [List.append] at hK_)); (with_reducible refine (big_Base.calls kj8 a0 a5 t197 _ ?side1 A21.out).mono ?_); (case side1 => exact Go.Proofs.YtddaggnomcoejaaDoor.Room.PowTab_below HG.out (by repeat (first | (with_reducible first | exact HB.out | apply below_alloc | apply pw_below_drewN | apply below_drew1) | exact HB.out))); rintro e w41 ⟨rfl, hb⟩; have n0_ := Aside0.mk (below_step (by repeat (first | (with_reducible first | exact HB.out | apply below_alloc | apply pw_below_drewN | apply below_drew1) | exact HB.out)) hb); clear HB; have HB := n0_; clear n0_; (try clear hb); (try clear hb2); (try clear hk); (try clear hi)) | (go_at_call 20; (try (rename_i hK_; simp only [List.append] at hK_)); (with_reducible refine (targumref4_Base.calls kj8 a0 a5 t198 _ A22.out).mono ?_); rintro e w42 ⟨rfl, hb⟩; have n0_ := Aside0.mk (below_step (by repeat (first | (with_reducible first | exact HB.out | apply below_alloc | apply pw_below_drewN | apply below_drew1) | exact HB.out)) hb); clear HB; have HB := n0_; clear n0_; (try clear hb); (try clear hb2); (try clear hk); (try clear hi)) | (go_at_call 21; (try (rename_i hK_; simp only [List.append] at hK_)); (with_reducible refine (big_MulAdd.calls kj8 a0 a3 a4 t199 _ ?side1 A24.out).mono ?_); (case side1 => exact Go.Proofs.YtddaggnomcoejaaDoor.Room.PowTab_below HG.out (by repeat (first | (with_reducible first | exact HB.out | apply below_alloc | apply pw_below_drewN | apply below_drew1) | exact HB.out))); rintro e w43 ⟨rfl, hb⟩; have n0_ := Aside0.mk (below_step (by repeat (first | (with_reducible first | exact HB.out | apply below_alloc | apply pw_below_drewN | apply below_drew1) | exact HB.out)) hb); clear HB; have HB := n0_; clear n0_; (try clear hb); (try clear hb2); (try clear hk); (try clear hi)) | (go_at_call 22; (try (rename_i hK_; simp only [List.append] at hK_)); (with_reducible refine (targumref4_MulAdd.calls kj8 a0 a3 a4 t200 _ A25.out).mono ?_); rintro e w44 ⟨rfl, hb⟩; have n0_ := Aside0.mk (below_step (by repeat (first | (with_reducible first | exact HB.out | apply below_alloc | apply pw_below_drewN | apply below_drew1) | exact HB.out)) hb); clear HB; have HB := n0_; clear n0_; (try clear hb); (try clear hb2); (try clear hk); (try clear hi)) | (go_at_call 23; (try (rename_i hK_; simp only [List.append] at hK_)); (with_reducible refine (big_Add.calls kj8 a0 a3 t201 _ ?side1 A27.out).mono ?_); (case side1 => exact Go.Proofs.YtddaggnomcoejaaDoor.Room.PowTab_below HG.out (by repeat (first | (with_reducible first | exact HB.out | apply below_alloc | apply pw_below_drewN | apply below_drew1) | exact HB.out))); rintro e w45 ⟨rfl, hb⟩; have n0_ := Aside0.mk (below_step (by repeat (first | (with_reducible first | exact HB.out | apply below_alloc | apply pw_below_drewN | apply below_drew1) | exact HB.out)) hb); clear HB; have HB := n0_; clear n0_; (try clear hb); (try clear hb2); (try clear hk); (try clear hi)) | (go_at_call 24; (try (rename_i hK_; simp only [List.append] at hK_)); (with_reducible refine (targumref4_Add.calls kj8 a0 a3 t202 _ A28.out).mono ?_); rintro e w46 ⟨rfl, hb⟩; have n0_ := Aside0.mk (below_step (by repeat (first | (with_reducible first | exact HB.out | apply below_alloc | apply pw_below_drewN | apply below_drew1) | exact HB.out)) hb); clear HB; have HB := n0_; clear n0_; (try clear hb); (try clear hb2); (try clear hk); (try clear hi)))
                      go_meet
                      case rel => exact ⟨_, (true), (by first | rfl | (simp; done) | (simp [*]; done) | (simp [wrap64]; done)), H', ⟨by have := HJ8.out; first | omega | exact Nat.le_refl _⟩, ⟨by repeat (first | (with_reducible first | exact HB.out | apply below_alloc | apply pw_below_drewN | apply below_drew1) | exact HB.out)⟩⟩
                  · rw [if_neg c26] at H
                    have c26b0 : (t199.toList == t200.toList) = false := beq_eq_false_iff_ne.mpr c26
                    have c26b1 : (t199.toList != t200.toList) = true := bne_iff_ne.mpr c26
                    have H' := Aside0.mk H
                    clear H
                    go_wp2_with (first | (go_at_call 16; (try (rename_i hK_; simp only [List.append] at hK_)); (with_reducible refine (big_Good.calls kj8 a0 t194 _ A16.out).mono ?_); rintro e w' ⟨rfl, ⟨nd, rfl⟩⟩) | (go_at_call 17; (try (rename_i hK_; simp only [List.append] at hK_)); (with_reducible refine (targumref4_Good.calls kj8 a0 t195 _ A17.out).mono ?_); rintro e w' ⟨rfl, ⟨nd, rfl⟩⟩) | (go_at_call 18; (try (rename_i hK_; simp only [List.append] at hK_)); (with_reducible refine (big_Norm.calls kj8 a2 a0 t196 _ A19.out).mono ?_); rintro e w47 ⟨rfl, hb⟩; have n0_ := Aside0.mk (below_step (by repeat (first | (with_reducible first | exact HB.out | apply below_alloc | apply pw_below_drewN | apply below_drew1) | exact HB.out)) hb); clear HB; have HB := n0_; clear n0_; (try clear hb); (try clear hb2); (try clear hk); (try clear hi)) | (go_at_call 19; (try (rename_i hK_; simp only [List.append] at hK_)); (with_reducible refine (big_Base.calls kj8 a0 a5 t197 _ ?side1 A21.out).mono ?_); (case side1 => exact Go.Proofs.YtddaggnomcoejaaDoor.Room.PowTab_below HG.out (by repeat (first | (with_reducible first | exact HB.out | apply below_alloc | apply pw_below_drewN | apply below_drew1) | exact HB.out))); rintro e w48 ⟨rfl, hb⟩; have n0_ := Aside0.mk (below_step (by repeat (first | (with_reducible first | exact HB.out | apply below_alloc | apply pw_below_drewN | apply below_drew1) | exact HB.out)) hb); clear HB; have HB := n0_; clear n0_; (try clear hb); (try clear hb2); (try clear hk); (try clear hi)) | (go_at_call 20; (try (rename_i hK_; simp only [List.append] at hK_)); (with_reducible refine (targumref4_Base.calls kj8 a0 a5 t198 _ A22.out).mono ?_); rintro e w49 ⟨rfl, hb⟩; have n0_ := Aside0.mk (below_step (by repeat (first | (with_reducible first | exact HB.out | apply below_alloc | apply pw_below_drewN | apply below_drew1) | exact HB.out)) hb); clear HB; have HB := n0_; clear n0_; (try clear hb); (try clear hb2); (try clear hk); (try clear hi)) | (go_at_call 21; (try (rename_i hK_; simp only [List.append] at hK_)); (with_reducible refine (big_MulAdd.calls kj8 a0 a3 a4 t199 _ ?side1 A24.out).mono ?_); (case side1 => exact Go.Proofs.YtddaggnomcoejaaDoor.Room.PowTab_below HG.out (by repeat (first | (with_reducible first | exact HB.out | apply below_alloc | apply pw_below_drewN | apply below_drew1) | exact HB.out))); rintro e w50 ⟨rfl, hb⟩; have n0_ := Aside0.mk (below_step (by repeat (first | (with_reducible first | exact HB.out | apply below_alloc | apply pw_below_drewN | apply below_drew1) | exact HB.out)) hb); clear HB; have HB := n0_; clear n0_; (try clear hb); (try clear hb2); (try clear hk); (try clear hi)) | (go_at_call 22; (try (rename_i hK_; simp only [List.append] at hK_)); (with_reducible refine (targumref4_MulAdd.calls kj8 a0 a3 a4 t200 _ A25.out).mono ?_); rintro e w51 ⟨rfl, hb⟩; have n0_ := Aside0.mk (below_step (by repeat (first | (with_reducible first | exact HB.out | apply below_alloc | apply pw_below_drewN | apply below_drew1) | exact HB.out)) hb); clear HB; have HB := n0_; clear n0_; (try clear hb); (try clear hb2); (try clear hk); (try clear hi)))
                    go_meet
                    case rel => exact ⟨_, (true), (by first | rfl | (simp; done) | (simp [*]; done) | (simp [wrap64]; done)), H', ⟨by have := HJ8.out; first | omega | exact Nat.le_refl _⟩, ⟨by repeat (first | (with_reducible first | exact HB.out | apply below_alloc | apply pw_below_drewN | apply below_drew1) | exact HB.out)⟩⟩
                · rw [if_neg c23] at H
                  have c23b0 : (t197.toList == t198.toList) = false := beq_eq_false_iff_ne.mpr c23
                  have c23b1 : (t197.toList != t198.toList) = true := bne_iff_ne.mpr c23
                  have H' := Aside0.mk H
                  clear H
                  go_wp2_with (first | (go_at_call 16; (try (rename_i hK_; simp only [List.append] at hK_)); (with_reducible refine (big_Good.calls kj8 a0 t194 _ A16.out).mono ?_); rintro e w' ⟨rfl, ⟨nd, rfl⟩⟩) | (go_at_call 17; (try (rename_i hK_; simp only [List.append] at hK_)); (with_reducible refine (targumref4_Good.calls kj8 a0 t195 _ A17.out).mono ?_); rintro e w' ⟨rfl, ⟨nd, rfl⟩⟩) | (go_at_call 18; (try (rename_i hK_; simp only [List.append] at hK_)); (with_reducible refine (big_Norm.calls kj8 a2 a0 t196 _ A19.out).mono ?_); rintro e w52 ⟨rfl, hb⟩; have n0_ := Aside0.mk (below_step (by repeat (first | (with_reducible first | exact HB.out | apply below_alloc | apply pw_below_drewN | apply below_drew1) | exact HB.out)) hb); clear HB; have HB := n0_; clear n0_; (try clear hb); (try clear hb2); (try clear hk); (try clear hi)) | (go_at_call 19; (try (rename_i hK_; simp only [List.append] at hK_)); (with_reducible refine (big_Base.calls kj8 a0 a5 t197 _ ?side1 A21.out).mono ?_); (case side1 => exact Go.Proofs.YtddaggnomcoejaaDoor.Room.PowTab_below HG.out (by repeat (first | (with_reducible first | exact HB.out | apply below_alloc | apply pw_below_drewN | apply below_drew1) | exact HB.out))); rintro e w53 ⟨rfl, hb⟩; have n0_ := Aside0.mk (below_step (by repeat (first | (with_reducible first | exact HB.out | apply below_alloc | apply pw_below_drewN | apply below_drew1) | exact HB.out)) hb); clear HB; have HB := n0_; clear n0_; (try clear hb); (try clear hb2); (try clear hk); (try clear hi)) | (go_at_call 20; (try (rename_i hK_; simp only [List.append] at hK_)); (with_reducible refine (targumref4_Base.calls kj8 a0 a5 t198 _ A22.out).mono ?_); rintro e w54 ⟨rfl, hb⟩; have n0_ := Aside0.mk (below_step (by repeat (first | (with_reducible first | exact HB.out | apply below_alloc | apply pw_below_drewN | apply below_drew1) | exact HB.out)) hb); clear HB; have HB := n0_; clear n0_; (try clear hb); (try clear hb2); (try clear hk); (try clear hi)))
                  go_meet
                  case rel => exact ⟨_, (true), (by first | rfl | (simp; done) | (simp [*]; done) | (simp [wrap64]; done)), H', ⟨by have := HJ8.out; first | omega | exact Nat.le_refl _⟩, ⟨by repeat (first | (with_reducible first | exact HB.out | apply below_alloc | apply pw_below_drewN | apply below_drew1) | exact HB.out)⟩⟩
              · rw [if_neg c20] at H
                have c20b0 : (t196.toList == t192.toList) = false := beq_eq_false_iff_ne.mpr c20
                have c20b1 : (t196.toList != t192.toList) = true := bne_iff_ne.mpr c20
                have H' := Aside0.mk H
                clear H
                go_wp2_with (first | (go_at_call 16; (try (rename_i hK_; simp only [List.append] at hK_)); (with_reducible refine (big_Good.calls kj8 a0 t194 _ A16.out).mono ?_); rintro e w' ⟨rfl, ⟨nd, rfl⟩⟩) | (go_at_call 17; (try (rename_i hK_; simp only [List.append] at hK_)); (with_reducible refine (targumref4_Good.calls kj8 a0 t195 _ A17.out).mono ?_); rintro e w' ⟨rfl, ⟨nd, rfl⟩⟩) | (go_at_call 18; (try (rename_i hK_; simp only [List.append] at hK_)); (with_reducible refine (big_Norm.calls kj8 a2 a0 t196 _ A19.out).mono ?_); rintro e w55 ⟨rfl, hb⟩; have n0_ := Aside0.mk (below_step (by repeat (first | (with_reducible first | exact HB.out | apply below_alloc | apply pw_below_drewN | apply below_drew1) | exact HB.out)) hb); clear HB; have HB := n0_; clear n0_; (try clear hb); (try clear hb2); (try clear hk); (try clear hi)))
                go_meet
                case rel => exact ⟨_, (true), (by first | rfl | (simp; done) | (simp [*]; done) | (simp [wrap64]; done)), H', ⟨by have := HJ8.out; first | omega | exact Nat.le_refl _⟩, ⟨by repeat (first | (with_reducible first | exact HB.out | apply below_alloc | apply pw_below_drewN | apply below_drew1) | exact HB.out)⟩⟩
          case rest =>
            clear HC15
            try clear c1
            try clear c2
            try clear p2
            try clear c3
            try clear c8
            try clear c11
            try clear c11b0
            try clear c11b1
            try clear c12
            try clear c14
            try clear c15
            try clear c18
            try clear c18b0
            try clear c18b1
            try clear c18b2
            try clear c20
            try clear c20b0
            try clear c20b1
            try clear c23
            try clear c23b0
            try clear c23b1
            try clear c26
            try clear c26b0
            try clear c26b1
            try clear c29
            try clear c29b0
            try clear c29b1
            try clear p2
            obtain ⟨kq, x85_14, rfl, HA, HJ14, HB⟩ := hcut
            cases kq with
            | zero => exact absurd HA.out (by simp [targumlaw4_BigTells.j1])
            | succ kj14 =>
              have H := HA.out
              clear HA
              simp only [targumlaw4_BigTells.j1] at H
              by_cases c56 : x85_14 = true
              · subst c56
                have H1 : (some false) = some r := by rw [if_pos rfl] at H; exact H
                clear H
                have H := H1
                clear H1
                obtain rfl := Option.some.inj H
                go_wp2
                go_ret
                exact ⟨by first | rfl | (simp [errW_none, errW_some] <;> rfl) | (simp [*, errW_none, errW_some] <;> rfl) | ((generalize ByteArray.toList _ = z_); cases z_ <;> first | rfl | (simp; done)), by repeat (first | (with_reducible first | exact HB.out | apply below_alloc | apply pw_below_drewN | apply below_drew1) | exact HB.out)⟩
              · replace c56 := Bool.eq_false_iff.mpr c56
                subst c56
                have H1 : ((some (([2, 8, 16] : List Int) : List Int)).bind fun y205 => (targumlaw4_BigTells.l0 kj14 a0 a1 a2 t192 t193 (Int.tmod a3 1000000) (Int.tmod a4 1000000) y205 (y205.length : Int) 0)) = some r := by rw [if_neg (show ¬ (false = true) by decide)] at H; exact H
                clear H
                have H := H1
                clear H1
                obtain ⟨y205, hy205⟩ : ∃ y_ : List Int, y_ = (([2, 8, 16] : List Int)) := ⟨_, rfl⟩
                replace H : (targumlaw4_BigTells.l0 kj14 a0 a1 a2 t192 t193 (Int.tmod a3 1000000) (Int.tmod a4 1000000) y205 (y205.length : Int) 0) = some r := by first | (rw [hy205]; with_reducible exact H) | (have H2_ := (Option.bind_some _ _).symm.trans H; rw [hy205]; with_reducible exact H2_) | (have H2_ := (Option.bind_some _ _).symm.trans H; with_reducible exact H2_) | with_reducible exact H | (rw [hy205]; exact H) | exact H
                have Ny205 := Aside0.mk hy205
                clear hy205
                have H' := Aside0.mk H
                clear H
                go_wp2_with (first | ((with_reducible refine gate_dst (N := 90) rfl ?_); (try (refine gate_guard (by rfl) ?_; dsimp only)); refine Kd.R_lit (Kd.int .i64) _ 3 ?hg (N := 90) ?hd (xs := ([2, 8, 16] : List Int)) (inner := [.int .i64 2, .int .i64 8, .int .i64 16]) (ok := fun _ => True) (okp := fun _ => True) ?hr ?hp (fun _ hk => hk) trivial (Below.refl _ _) (Nat.le_refl _) (by simp) ?_; (case hd => rfl); (case hg => rfl); (case hr => first | (go_simp; done) | (go_simp; rfl)); (case hp => exact (Reps.one (show Kd.M (Kd.int .i64) _ _ _ 2 [.int .i64 2] from rfl) (Reps.one (show Kd.M (Kd.int .i64) _ _ _ 8 [.int .i64 8] from rfl) (Reps.one (show Kd.M (Kd.int .i64) _ _ _ 16 [.int .i64 16] from rfl) (Reps.none _ _))))); intro v206 w57 ho58 hb hg_ hnew_; clear hg_ hnew_; (first | rw [← Ny205.out] at ho58 | (simp only [Int.reduceToNat] at ho58; rw [← Ny205.out] at ho58)); have n0_ := Aside0.mk (Kd.R_lower ho58 (below_size (by repeat (first | (with_reducible first | exact HB.out | apply below_alloc | apply pw_below_drewN | apply below_drew1) | exact HB.out)))); have n1_ := Aside0.mk (below_step (by repeat (first | (with_reducible first | exact HB.out | apply below_alloc | apply pw_below_drewN | apply below_drew1) | exact HB.out)) hb); clear HB; have HO207 := n0_; have HB := n1_; clear n0_ n1_; clear hb ho58; obtain ⟨Ao59, co59, eo59⟩ := Kd.R_slice HO207.out; subst eo59))
                go_loopg [92] kj14 (fun kq v92 w' => ∃ (x92_3 : Int), v92 = .int .i64 x92_3 ∧ Aside0 (targumlaw4_BigTells.l0 kq a0 a1 a2 t192 t193 (Int.tmod a3 1000000) (Int.tmod a4 1000000) y205 (y205.length : Int) x92_3 = some r) ∧ Aside0 (kq ≤ kj14) ∧ Aside0 (Kd.R (Kd.int .i64) 3 w' w.heap.size (fun _ => True) (.slice Ao59 y205.length co59) y205) ∧ Aside0 (Below w.heap.size w w'))
                case atStart => exact ⟨(0), (by first | rfl | (simp; done) | (simp [*]; done) | (simp [wrap64]; done)), H', ⟨Nat.le_refl _⟩, ⟨by (with_reducible repeat (first | apply Kd.R_alloc | apply Kd.R_drewN | apply Kd.R_drew)); exact HO207.out⟩, ⟨by repeat (first | (with_reducible first | exact HB.out | apply below_alloc | apply pw_below_drewN | apply below_drew1) | exact HB.out)⟩⟩
                case round =>
                  clear H'
                  try clear c1
                  try clear c2
                  try clear p2
                  try clear c3
                  try clear c5
                  try clear c8
                  try clear c11
                  try clear c11b0
                  try clear c11b1
                  try clear c12
                  try clear c14
                  try clear c15
                  try clear c18
                  try clear c18b0
                  try clear c18b1
                  try clear c18b2
                  try clear c20
                  try clear c20b0
                  try clear c20b1
                  try clear c23
                  try clear c23b0
                  try clear c23b1
                  try clear c26
                  try clear c26b0
                  try clear c26b1
                  try clear c29
                  try clear c29b0
                  try clear c29b1
                  try clear c56
                  try clear p2
                  obtain ⟨x92_3, rfl, HA, HK3, HO_90, HB⟩ := hrel
                  cases gk with
                  | zero => exact absurd HA.out (by simp [targumlaw4_BigTells.l0])
                  | succ k3 =>
                    have H := HA.out
                    clear HA
                    simp only [targumlaw4_BigTells.l0] at H
                    by_cases c60 : x92_3 < (y205.length : Int)
                    · rw [if_pos c60] at H
                      have c60b0 : decide (x92_3 < (y205.length : Int)) = true := decide_eq_true c60
                      clear c60
                      by_cases c61 : 0 ≤ x92_3
                      · rw [if_pos c61] at H
                        have c61b0 : decide (0 ≤ x92_3) = true := decide_eq_true c61
                        clear c61
                        by_cases c62 : x92_3 < (y205.length : Int)
                        · rw [if_pos c62] at H
                          have c62b0 : decide (x92_3 < (y205.length : Int)) = true := decide_eq_true c62
                          clear c62
                          replace H := Option.bind_eq_some_iff.mp H
                          obtain ⟨t209, A630, H⟩ := H
                          replace H : ((targumref4_Base.f k3 a0 (rd y205 x92_3)).bind fun t210 => (if t209.toList = t210.toList then (targumlaw4_BigTells.l0 k3 a0 a1 a2 t192 t193 (Int.tmod a3 1000000) (Int.tmod a4 1000000) y205 (y205.length : Int) (wrap64 (x92_3 + 1))) else (some false))) = some r := H
                          have A63 := Aside0.mk A630
                          clear A630
                          replace H := Option.bind_eq_some_iff.mp H
                          obtain ⟨t210, A640, H⟩ := H
                          replace H : (if t209.toList = t210.toList then (targumlaw4_BigTells.l0 k3 a0 a1 a2 t192 t193 (Int.tmod a3 1000000) (Int.tmod a4 1000000) y205 (y205.length : Int) (wrap64 (x92_3 + 1))) else (some false)) = some r := H
                          have A64 := Aside0.mk A640
                          clear A640
                          by_cases c65 : t209.toList = t210.toList
                          · rw [if_pos c65] at H
                            have c65b0 : (t209.toList == t210.toList) = true := beq_iff_eq.mpr c65
                            have c65b1 : (t209.toList != t210.toList) = false := bne_eq_false_iff_eq.mpr c65
                            clear c65
                            have H' := Aside0.mk H
                            clear H
                            have p208 : 0 ≤ (x92_3 : Int) := of_decide_eq_true (by first | (with_reducible assumption) | assumption)
                            have q208 : x92_3 < (y205.length : Int) := of_decide_eq_true (by first | (with_reducible assumption) | assumption)
                            obtain ⟨ad208, e208, hx208_0⟩ := Kd.at_int (Kd.R_reads' HO_90.out).2.2 x92_3 p208 q208
                            cases e208
                            replace p208 := eq_true p208
                            replace q208 := eq_true q208
                            go_wp2_with (first | ((with_reducible refine gate_callee (f := 19) rfl ?_); refine goesL_ (some 98) rfl rfl Tryd.func19 (by kernel_rfl) rfl #[.string a0, .int .i64 (rd y205 x92_3)] rfl (by (try simp only [List.map_toArray, List.map_cons, List.map_nil]); first | done | rfl | (simp only [List.length_drop, List.length_take]; rfl)) ?_; (with_reducible refine (big_Base.calls k3 a0 (rd y205 x92_3) t209 _ ?side1 A63.out).mono ?_); (case side1 => exact Go.Proofs.YtddaggnomcoejaaDoor.Room.PowTab_below HG.out (by repeat (first | (with_reducible first | exact HB.out | apply below_alloc | apply pw_below_drewN | apply below_drew1) | exact HB.out))); rintro e w66 ⟨rfl, hb⟩; refine ⟨_, rfl, ?_⟩; have n0_ := Aside0.mk (Kd.R_below (by (with_reducible repeat (first | apply Kd.R_alloc | apply Kd.R_drewN | apply Kd.R_drew)); exact HO_90.out) hb); have n1_ := Aside0.mk (below_step (by repeat (first | (with_reducible first | exact HB.out | apply below_alloc | apply pw_below_drewN | apply below_drew1) | exact HB.out)) hb); clear HO_90; clear HB; have HO_90 := n0_; have HB := n1_; clear n0_ n1_; (try clear hb); (try clear hb2); (try clear hk); (try clear hi)) | ((with_reducible refine gate_callee (f := 20) rfl ?_); refine goesL_ (some 101) rfl rfl Tryd.func20 (by kernel_rfl) rfl #[.string a0, .int .i64 (rd y205 x92_3)] rfl (by (try simp only [List.map_toArray, List.map_cons, List.map_nil]); first | done | rfl | (simp only [List.length_drop, List.length_take]; rfl)) ?_; (with_reducible refine (targumref4_Base.calls k3 a0 (rd y205 x92_3) t210 _ A64.out).mono ?_); rintro e w67 ⟨rfl, hb⟩; refine ⟨_, rfl, ?_⟩; have n0_ := Aside0.mk (Kd.R_below (by (with_reducible repeat (first | apply Kd.R_alloc | apply Kd.R_drewN | apply Kd.R_drew)); exact HO_90.out) hb); have n1_ := Aside0.mk (below_step (by repeat (first | (with_reducible first | exact HB.out | apply below_alloc | apply pw_below_drewN | apply below_drew1) | exact HB.out)) hb); clear HO_90; clear HB; have HO_90 := n0_; have HB := n1_; clear n0_ n1_; (try clear hb); (try clear hb2); (try clear hk); (try clear hi)))
                            go_roundg k3
                            case measure => have := HJ8.out; have := HJ14.out; have := HK3.out; omega
                            case rel => exact ⟨(wrap64 (x92_3 + 1)), (by first | rfl | (simp; done) | (simp [*]; done) | (simp [wrap64]; done)), H', ⟨by have := HJ8.out; have := HJ14.out; have := HK3.out; omega⟩, ⟨by (with_reducible repeat (first | apply Kd.R_alloc | apply Kd.R_drewN | apply Kd.R_drew)); exact HO_90.out⟩, ⟨by repeat (first | (with_reducible first | exact HB.out | apply below_alloc | apply pw_below_drewN | apply below_drew1) | exact HB.out)⟩⟩
                          · rw [if_neg c65] at H
                            have c65b0 : (t209.toList == t210.toList) = false := beq_eq_false_iff_ne.mpr c65
                            have c65b1 : (t209.toList != t210.toList) = true := bne_iff_ne.mpr c65
                            obtain rfl := Option.some.inj H
                            have p208 : 0 ≤ (x92_3 : Int) := of_decide_eq_true (by first | (with_reducible assumption) | assumption)
                            have q208 : x92_3 < (y205.length : Int) := of_decide_eq_true (by first | (with_reducible assumption) | assumption)
                            obtain ⟨ad208, e208, hx208_0⟩ := Kd.at_int (Kd.R_reads' HO_90.out).2.2 x92_3 p208 q208
                            cases e208
                            replace p208 := eq_true p208
                            replace q208 := eq_true q208
                            go_wp2_with (first | ((with_reducible refine gate_callee (f := 19) rfl ?_); refine goesL_ (some 98) rfl rfl Tryd.func19 (by kernel_rfl) rfl #[.string a0, .int .i64 (rd y205 x92_3)] rfl (by (try simp only [List.map_toArray, List.map_cons, List.map_nil]); first | done | rfl | (simp only [List.length_drop, List.length_take]; rfl)) ?_; (with_reducible refine (big_Base.calls k3 a0 (rd y205 x92_3) t209 _ ?side1 A63.out).mono ?_); (case side1 => exact Go.Proofs.YtddaggnomcoejaaDoor.Room.PowTab_below HG.out (by repeat (first | (with_reducible first | exact HB.out | apply below_alloc | apply pw_below_drewN | apply below_drew1) | exact HB.out))); rintro e w68 ⟨rfl, hb⟩; refine ⟨_, rfl, ?_⟩; have n0_ := Aside0.mk (Kd.R_below (by (with_reducible repeat (first | apply Kd.R_alloc | apply Kd.R_drewN | apply Kd.R_drew)); exact HO_90.out) hb); have n1_ := Aside0.mk (below_step (by repeat (first | (with_reducible first | exact HB.out | apply below_alloc | apply pw_below_drewN | apply below_drew1) | exact HB.out)) hb); clear HO_90; clear HB; have HO_90 := n0_; have HB := n1_; clear n0_ n1_; (try clear hb); (try clear hb2); (try clear hk); (try clear hi)) | ((with_reducible refine gate_callee (f := 20) rfl ?_); refine goesL_ (some 101) rfl rfl Tryd.func20 (by kernel_rfl) rfl #[.string a0, .int .i64 (rd y205 x92_3)] rfl (by (try simp only [List.map_toArray, List.map_cons, List.map_nil]); first | done | rfl | (simp only [List.length_drop, List.length_take]; rfl)) ?_; (with_reducible refine (targumref4_Base.calls k3 a0 (rd y205 x92_3) t210 _ A64.out).mono ?_); rintro e w69 ⟨rfl, hb⟩; refine ⟨_, rfl, ?_⟩; have n0_ := Aside0.mk (Kd.R_below (by (with_reducible repeat (first | apply Kd.R_alloc | apply Kd.R_drewN | apply Kd.R_drew)); exact HO_90.out) hb); have n1_ := Aside0.mk (below_step (by repeat (first | (with_reducible first | exact HB.out | apply below_alloc | apply pw_below_drewN | apply below_drew1) | exact HB.out)) hb); clear HO_90; clear HB; have HO_90 := n0_; have HB := n1_; clear n0_ n1_; (try clear hb); (try clear hb2); (try clear hk); (try clear hi)))
                            go_ret
                            exact ⟨by first | rfl | (simp [errW_none, errW_some] <;> rfl) | (simp [*, errW_none, errW_some] <;> rfl) | ((generalize ByteArray.toList _ = z_); cases z_ <;> first | rfl | (simp; done)), by repeat (first | (with_reducible first | exact HB.out | apply below_alloc | apply pw_below_drewN | apply below_drew1) | exact HB.out)⟩
                        · rw [if_neg c62] at H
                          exact absurd H (by simp)
                      · rw [if_neg c61] at H
                        exact absurd H (by simp)
                    · rw [if_neg c60] at H
                      have c60b0 : decide (x92_3 < (y205.length : Int)) = false := decide_eq_false c60
                      clear c60
                      replace H := Option.bind_eq_some_iff.mp H
                      obtain ⟨t211, A700, H⟩ := H
                      replace H : ((targumref4_MulAdd.f k3 t192 (Int.tmod a3 1000000) (Int.tmod a4 1000000)).bind fun t212 => (if t211.toList = t212.toList then ((big_Add.f k3 t192 (Int.tmod a3 1000000)).bind fun t213 => ((targumref4_Add.f k3 t192 (Int.tmod a3 1000000)).bind fun t214 => (if t213.toList = t214.toList then ((big_Add.f k3 t193 (wrap64 (-(Int.tmod a4 1000000)))).bind fun t215 => ((targumref4_Add.f k3 t193 (wrap64 (-(Int.tmod a4 1000000)))).bind fun t216 => (if t215.toList = t216.toList then ((big_Compare.f k3 t192 t193).bind fun t217 => ((targumref4_Compare.f k3 t192 t193).bind fun t218 => (if t217 = t218 then ((targumref4_Norm.f k3 a2 a1).bind fun t219 => ((big_Compare.f k3 t192 t219).bind fun t220 => ((targumref4_Norm.f k3 a2 a1).bind fun t221 => ((targumref4_Compare.f k3 t192 t221).bind fun t222 => (if t220 = t222 then ((big_Good.f k3 t192).bind fun t223 => (some (t223 == (t192.toList != ([] : List UInt8))))) else (some false)))))) else (some false)))) else (some false)))) else (some false)))) else (some false))) = some r := H
                      have A70 := Aside0.mk A700
                      clear A700
                      replace H := Option.bind_eq_some_iff.mp H
                      obtain ⟨t212, A710, H⟩ := H
                      replace H : (if t211.toList = t212.toList then ((big_Add.f k3 t192 (Int.tmod a3 1000000)).bind fun t213 => ((targumref4_Add.f k3 t192 (Int.tmod a3 1000000)).bind fun t214 => (if t213.toList = t214.toList then ((big_Add.f k3 t193 (wrap64 (-(Int.tmod a4 1000000)))).bind fun t215 => ((targumref4_Add.f k3 t193 (wrap64 (-(Int.tmod a4 1000000)))).bind fun t216 => (if t215.toList = t216.toList then ((big_Compare.f k3 t192 t193).bind fun t217 => ((targumref4_Compare.f k3 t192 t193).bind fun t218 => (if t217 = t218 then ((targumref4_Norm.f k3 a2 a1).bind fun t219 => ((big_Compare.f k3 t192 t219).bind fun t220 => ((targumref4_Norm.f k3 a2 a1).bind fun t221 => ((targumref4_Compare.f k3 t192 t221).bind fun t222 => (if t220 = t222 then ((big_Good.f k3 t192).bind fun t223 => (some (t223 == (t192.toList != ([] : List UInt8))))) else (some false)))))) else (some false)))) else (some false)))) else (some false)))) else (some false)) = some r := H
                      have A71 := Aside0.mk A710
                      clear A710
                      by_cases c72 : t211.toList = t212.toList
                      · rw [if_pos c72] at H
                        have c72b0 : (t211.toList == t212.toList) = true := beq_iff_eq.mpr c72
                        have c72b1 : (t211.toList != t212.toList) = false := bne_eq_false_iff_eq.mpr c72
                        clear c72
                        replace H := Option.bind_eq_some_iff.mp H
                        obtain ⟨t213, A730, H⟩ := H
                        replace H : ((targumref4_Add.f k3 t192 (Int.tmod a3 1000000)).bind fun t214 => (if t213.toList = t214.toList then ((big_Add.f k3 t193 (wrap64 (-(Int.tmod a4 1000000)))).bind fun t215 => ((targumref4_Add.f k3 t193 (wrap64 (-(Int.tmod a4 1000000)))).bind fun t216 => (if t215.toList = t216.toList then ((big_Compare.f k3 t192 t193).bind fun t217 => ((targumref4_Compare.f k3 t192 t193).bind fun t218 => (if t217 = t218 then ((targumref4_Norm.f k3 a2 a1).bind fun t219 => ((big_Compare.f k3 t192 t219).bind fun t220 => ((targumref4_Norm.f k3 a2 a1).bind fun t221 => ((targumref4_Compare.f k3 t192 t221).bind fun t222 => (if t220 = t222 then ((big_Good.f k3 t192).bind fun t223 => (some (t223 == (t192.toList != ([] : List UInt8))))) else (some false)))))) else (some false)))) else (some false)))) else (some false))) = some r := H
                        have A73 := Aside0.mk A730
                        clear A730
                        replace H := Option.bind_eq_some_iff.mp H
                        obtain ⟨t214, A740, H⟩ := H
                        replace H : (if t213.toList = t214.toList then ((big_Add.f k3 t193 (wrap64 (-(Int.tmod a4 1000000)))).bind fun t215 => ((targumref4_Add.f k3 t193 (wrap64 (-(Int.tmod a4 1000000)))).bind fun t216 => (if t215.toList = t216.toList then ((big_Compare.f k3 t192 t193).bind fun t217 => ((targumref4_Compare.f k3 t192 t193).bind fun t218 => (if t217 = t218 then ((targumref4_Norm.f k3 a2 a1).bind fun t219 => ((big_Compare.f k3 t192 t219).bind fun t220 => ((targumref4_Norm.f k3 a2 a1).bind fun t221 => ((targumref4_Compare.f k3 t192 t221).bind fun t222 => (if t220 = t222 then ((big_Good.f k3 t192).bind fun t223 => (some (t223 == (t192.toList != ([] : List UInt8))))) else (some false)))))) else (some false)))) else (some false)))) else (some false)) = some r := H
                        have A74 := Aside0.mk A740
                        clear A740
                        by_cases c75 : t213.toList = t214.toList
                        · rw [if_pos c75] at H
                          have c75b0 : (t213.toList == t214.toList) = true := beq_iff_eq.mpr c75
                          have c75b1 : (t213.toList != t214.toList) = false := bne_eq_false_iff_eq.mpr c75
                          clear c75
                          replace H := Option.bind_eq_some_iff.mp H
                          obtain ⟨t215, A760, H⟩ := H
                          replace H : ((targumref4_Add.f k3 t193 (wrap64 (-(Int.tmod a4 1000000)))).bind fun t216 => (if t215.toList = t216.toList then ((big_Compare.f k3 t192 t193).bind fun t217 => ((targumref4_Compare.f k3 t192 t193).bind fun t218 => (if t217 = t218 then ((targumref4_Norm.f k3 a2 a1).bind fun t219 => ((big_Compare.f k3 t192 t219).bind fun t220 => ((targumref4_Norm.f k3 a2 a1).bind fun t221 => ((targumref4_Compare.f k3 t192 t221).bind fun t222 => (if t220 = t222 then ((big_Good.f k3 t192).bind fun t223 => (some (t223 == (t192.toList != ([] : List UInt8))))) else (some false)))))) else (some false)))) else (some false))) = some r := H
                          have A76 := Aside0.mk A760
                          clear A760
                          replace H := Option.bind_eq_some_iff.mp H
                          obtain ⟨t216, A770, H⟩ := H
                          replace H : (if t215.toList = t216.toList then ((big_Compare.f k3 t192 t193).bind fun t217 => ((targumref4_Compare.f k3 t192 t193).bind fun t218 => (if t217 = t218 then ((targumref4_Norm.f k3 a2 a1).bind fun t219 => ((big_Compare.f k3 t192 t219).bind fun t220 => ((targumref4_Norm.f k3 a2 a1).bind fun t221 => ((targumref4_Compare.f k3 t192 t221).bind fun t222 => (if t220 = t222 then ((big_Good.f k3 t192).bind fun t223 => (some (t223 == (t192.toList != ([] : List UInt8))))) else (some false)))))) else (some false)))) else (some false)) = some r := H
                          have A77 := Aside0.mk A770
                          clear A770
                          by_cases c78 : t215.toList = t216.toList
                          · rw [if_pos c78] at H
                            have c78b0 : (t215.toList == t216.toList) = true := beq_iff_eq.mpr c78
                            have c78b1 : (t215.toList != t216.toList) = false := bne_eq_false_iff_eq.mpr c78
                            clear c78
                            replace H := Option.bind_eq_some_iff.mp H
                            obtain ⟨t217, A790, H⟩ := H
                            replace H : ((targumref4_Compare.f k3 t192 t193).bind fun t218 => (if t217 = t218 then ((targumref4_Norm.f k3 a2 a1).bind fun t219 => ((big_Compare.f k3 t192 t219).bind fun t220 => ((targumref4_Norm.f k3 a2 a1).bind fun t221 => ((targumref4_Compare.f k3 t192 t221).bind fun t222 => (if t220 = t222 then ((big_Good.f k3 t192).bind fun t223 => (some (t223 == (t192.toList != ([] : List UInt8))))) else (some false)))))) else (some false))) = some r := H
                            have A79 := Aside0.mk A790
                            clear A790
                            replace H := Option.bind_eq_some_iff.mp H
                            obtain ⟨t218, A800, H⟩ := H
                            replace H : (if t217 = t218 then ((targumref4_Norm.f k3 a2 a1).bind fun t219 => ((big_Compare.f k3 t192 t219).bind fun t220 => ((targumref4_Norm.f k3 a2 a1).bind fun t221 => ((targumref4_Compare.f k3 t192 t221).bind fun t222 => (if t220 = t222 then ((big_Good.f k3 t192).bind fun t223 => (some (t223 == (t192.toList != ([] : List UInt8))))) else (some false)))))) else (some false)) = some r := H
                            have A80 := Aside0.mk A800
                            clear A800
                            by_cases c81 : t217 = t218
                            · rw [if_pos c81] at H
                              have c81b0 : (t217 == t218) = true := beq_iff_eq.mpr c81
                              have c81b1 : (t217 != t218) = false := bne_eq_false_iff_eq.mpr c81
                              clear c81
                              replace H := Option.bind_eq_some_iff.mp H
                              obtain ⟨t219, A820, H⟩ := H
                              replace H : ((big_Compare.f k3 t192 t219).bind fun t220 => ((targumref4_Norm.f k3 a2 a1).bind fun t221 => ((targumref4_Compare.f k3 t192 t221).bind fun t222 => (if t220 = t222 then ((big_Good.f k3 t192).bind fun t223 => (some (t223 == (t192.toList != ([] : List UInt8))))) else (some false))))) = some r := H
                              have A82 := Aside0.mk A820
                              clear A820
                              replace H := Option.bind_eq_some_iff.mp H
                              obtain ⟨t220, A830, H⟩ := H
                              replace H : ((targumref4_Norm.f k3 a2 a1).bind fun t221 => ((targumref4_Compare.f k3 t192 t221).bind fun t222 => (if t220 = t222 then ((big_Good.f k3 t192).bind fun t223 => (some (t223 == (t192.toList != ([] : List UInt8))))) else (some false)))) = some r := H
                              have A83 := Aside0.mk A830
                              clear A830
                              replace H := Option.bind_eq_some_iff.mp H
                              obtain ⟨t221, A840, H⟩ := H
                              replace H : ((targumref4_Compare.f k3 t192 t221).bind fun t222 => (if t220 = t222 then ((big_Good.f k3 t192).bind fun t223 => (some (t223 == (t192.toList != ([] : List UInt8))))) else (some false))) = some r := H
                              have A84 := Aside0.mk A840
                              clear A840
                              replace H := Option.bind_eq_some_iff.mp H
                              obtain ⟨t222, A850, H⟩ := H
                              replace H : (if t220 = t222 then ((big_Good.f k3 t192).bind fun t223 => (some (t223 == (t192.toList != ([] : List UInt8))))) else (some false)) = some r := H
                              have A85 := Aside0.mk A850
                              clear A850
                              by_cases c86 : t220 = t222
                              · rw [if_pos c86] at H
                                have c86b0 : (t220 == t222) = true := beq_iff_eq.mpr c86
                                have c86b1 : (t220 != t222) = false := bne_eq_false_iff_eq.mpr c86
                                clear c86
                                replace H := Option.bind_eq_some_iff.mp H
                                obtain ⟨t223, A870, H⟩ := H
                                replace H : (some (t223 == (t192.toList != ([] : List UInt8)))) = some r := H
                                have A87 := Aside0.mk A870
                                clear A870
                                obtain rfl := Option.some.inj H
                                go_wp2_with (first | (go_at_call 21; (try (rename_i hK_; simp only [List.append] at hK_)); (with_reducible refine (big_MulAdd.calls k3 t192 (Int.tmod a3 1000000) (Int.tmod a4 1000000) t211 _ ?side1 A70.out).mono ?_); (case side1 => exact Go.Proofs.YtddaggnomcoejaaDoor.Room.PowTab_below HG.out (by repeat (first | (with_reducible first | exact HB.out | apply below_alloc | apply pw_below_drewN | apply below_drew1) | exact HB.out))); rintro e w88 ⟨rfl, hb⟩; have n0_ := Aside0.mk (Kd.R_below (by (with_reducible repeat (first | apply Kd.R_alloc | apply Kd.R_drewN | apply Kd.R_drew)); exact HO_90.out) hb); have n1_ := Aside0.mk (below_step (by repeat (first | (with_reducible first | exact HB.out | apply below_alloc | apply pw_below_drewN | apply below_drew1) | exact HB.out)) hb); clear HO_90; clear HB; have HO_90 := n0_; have HB := n1_; clear n0_ n1_; (try clear hb); (try clear hb2); (try clear hk); (try clear hi)) | (go_at_call 22; (try (rename_i hK_; simp only [List.append] at hK_)); (with_reducible refine (targumref4_MulAdd.calls k3 t192 (Int.tmod a3 1000000) (Int.tmod a4 1000000) t212 _ A71.out).mono ?_); rintro e w89 ⟨rfl, hb⟩; have n0_ := Aside0.mk (Kd.R_below (by (with_reducible repeat (first | apply Kd.R_alloc | apply Kd.R_drewN | apply Kd.R_drew)); exact HO_90.out) hb); have n1_ := Aside0.mk (below_step (by repeat (first | (with_reducible first | exact HB.out | apply below_alloc | apply pw_below_drewN | apply below_drew1) | exact HB.out)) hb); clear HO_90; clear HB; have HO_90 := n0_; have HB := n1_; clear n0_ n1_; (try clear hb); (try clear hb2); (try clear hk); (try clear hi)) | (go_at_call 23; (try (rename_i hK_; simp only [List.append] at hK_)); (with_reducible refine (big_Add.calls k3 t192 (Int.tmod a3 1000000) t213 _ ?side1 A73.out).mono ?_); (case side1 => exact Go.Proofs.YtddaggnomcoejaaDoor.Room.PowTab_below HG.out (by repeat (first | (with_reducible first | exact HB.out | apply below_alloc | apply pw_below_drewN | apply below_drew1) | exact HB.out))); rintro e w90 ⟨rfl, hb⟩; have n0_ := Aside0.mk (Kd.R_below (by (with_reducible repeat (first | apply Kd.R_alloc | apply Kd.R_drewN | apply Kd.R_drew)); exact HO_90.out) hb); have n1_ := Aside0.mk (below_step (by repeat (first | (with_reducible first | exact HB.out | apply below_alloc | apply pw_below_drewN | apply below_drew1) | exact HB.out)) hb); clear HO_90; clear HB; have HO_90 := n0_; have HB := n1_; clear n0_ n1_; (try clear hb); (try clear hb2); (try clear hk); (try clear hi)) | (go_at_call 24; (try (rename_i hK_; simp only [List.append] at hK_)); (with_reducible refine (targumref4_Add.calls k3 t192 (Int.tmod a3 1000000) t214 _ A74.out).mono ?_); rintro e w91 ⟨rfl, hb⟩; have n0_ := Aside0.mk (Kd.R_below (by (with_reducible repeat (first | apply Kd.R_alloc | apply Kd.R_drewN | apply Kd.R_drew)); exact HO_90.out) hb); have n1_ := Aside0.mk (below_step (by repeat (first | (with_reducible first | exact HB.out | apply below_alloc | apply pw_below_drewN | apply below_drew1) | exact HB.out)) hb); clear HO_90; clear HB; have HO_90 := n0_; have HB := n1_; clear n0_ n1_; (try clear hb); (try clear hb2); (try clear hk); (try clear hi)) | (go_at_call 23; (try (rename_i hK_; simp only [List.append] at hK_)); (with_reducible refine (big_Add.calls k3 t193 (wrap64 (-(Int.tmod a4 1000000))) t215 _ ?side1 A76.out).mono ?_); (case side1 => exact Go.Proofs.YtddaggnomcoejaaDoor.Room.PowTab_below HG.out (by repeat (first | (with_reducible first | exact HB.out | apply below_alloc | apply pw_below_drewN | apply below_drew1) | exact HB.out))); rintro e w92 ⟨rfl, hb⟩; have n0_ := Aside0.mk (Kd.R_below (by (with_reducible repeat (first | apply Kd.R_alloc | apply Kd.R_drewN | apply Kd.R_drew)); exact HO_90.out) hb); have n1_ := Aside0.mk (below_step (by repeat (first | (with_reducible first | exact HB.out | apply below_alloc | apply pw_below_drewN | apply below_drew1) | exact HB.out)) hb); clear HO_90; clear HB; have HO_90 := n0_; have HB := n1_; clear n0_ n1_; (try clear hb); (try clear hb2); (try clear hk); (try clear hi)) | (go_at_call 24; (try (rename_i hK_; simp only [List.append] at hK_)); (with_reducible refine (targumref4_Add.calls k3 t193 (wrap64 (-(Int.tmod a4 1000000))) t216 _ A77.out).mono ?_); rintro e w93 ⟨rfl, hb⟩; have n0_ := Aside0.mk (Kd.R_below (by (with_reducible repeat (first | apply Kd.R_alloc | apply Kd.R_drewN | apply Kd.R_drew)); exact HO_90.out) hb); have n1_ := Aside0.mk (below_step (by repeat (first | (with_reducible first | exact HB.out | apply below_alloc | apply pw_below_drewN | apply below_drew1) | exact HB.out)) hb); clear HO_90; clear HB; have HO_90 := n0_; have HB := n1_; clear n0_ n1_; (try clear hb); (try clear hb2); (try clear hk); (try clear hi)) | (go_at_call 25; (try (rename_i hK_; simp only [List.append] at hK_)); (with_reducible refine (big_Compare.calls k3 t192 t193 t217 _ A79.out).mono ?_); rintro e w94 ⟨rfl, hb⟩; have n0_ := Aside0.mk (Kd.R_below (by (with_reducible repeat (first | apply Kd.R_alloc | apply Kd.R_drewN | apply Kd.R_drew)); exact HO_90.out) hb); have n1_ := Aside0.mk (below_step (by repeat (first | (with_reducible first | exact HB.out | apply below_alloc | apply pw_below_drewN | apply below_drew1) | exact HB.out)) hb); clear HO_90; clear HB; have HO_90 := n0_; have HB := n1_; clear n0_ n1_; (try clear hb); (try clear hb2); (try clear hk); (try clear hi); clear A79) | (go_at_call 26; (try (rename_i hK_; simp only [List.append] at hK_)); (with_reducible refine (targumref4_Compare.calls k3 t192 t193 t218 _ A80.out).mono ?_); rintro e w' ⟨rfl, ⟨nd, rfl⟩⟩; clear A80) | (go_at_call 15; (try (rename_i hK_; simp only [List.append] at hK_)); (with_reducible refine (targumref4_Norm.calls k3 a2 a1 t219 _ A82.out).mono ?_); rintro e w' ⟨rfl, ⟨nd, rfl⟩⟩; clear A82) | (go_at_call 25; (try (rename_i hK_; simp only [List.append] at hK_)); (with_reducible refine (big_Compare.calls k3 t192 t219 t220 _ A83.out).mono ?_); rintro e w95 ⟨rfl, hb⟩; have n0_ := Aside0.mk (Kd.R_below (by (with_reducible repeat (first | apply Kd.R_alloc | apply Kd.R_drewN | apply Kd.R_drew)); exact HO_90.out) hb); have n1_ := Aside0.mk (below_step (by repeat (first | (with_reducible first | exact HB.out | apply below_alloc | apply pw_below_drewN | apply below_drew1) | exact HB.out)) hb); clear HO_90; clear HB; have HO_90 := n0_; have HB := n1_; clear n0_ n1_; (try clear hb); (try clear hb2); (try clear hk); (try clear hi); clear A83) | (go_at_call 15; (try (rename_i hK_; simp only [List.append] at hK_)); (with_reducible refine (targumref4_Norm.calls k3 a2 a1 t221 _ A84.out).mono ?_); rintro e w' ⟨rfl, ⟨nd, rfl⟩⟩; clear A84) | (go_at_call 26; (try (rename_i hK_; simp only [List.append] at hK_)); (with_reducible refine (targumref4_Compare.calls k3 t192 t221 t222 _ A85.out).mono ?_); rintro e w' ⟨rfl, ⟨nd, rfl⟩⟩; clear A85) | (go_at_call 16; (try (rename_i hK_; simp only [List.append] at hK_)); (with_reducible refine (big_Good.calls k3 t192 t223 _ A87.out).mono ?_); rintro e w' ⟨rfl, ⟨nd, rfl⟩⟩))
                                go_ret
                                exact ⟨by first | rfl | (simp [errW_none, errW_some] <;> rfl) | (simp [*, errW_none, errW_some] <;> rfl) | ((generalize ByteArray.toList _ = z_); cases z_ <;> first | rfl | (simp; done)), by repeat (first | (with_reducible first | exact HB.out | apply below_alloc | apply pw_below_drewN | apply below_drew1) | exact HB.out)⟩
                              · rw [if_neg c86] at H
                                have c86b0 : (t220 == t222) = false := beq_eq_false_iff_ne.mpr c86
                                have c86b1 : (t220 != t222) = true := bne_iff_ne.mpr c86
                                obtain rfl := Option.some.inj H
                                go_wp2_with (first | (go_at_call 21; (try (rename_i hK_; simp only [List.append] at hK_)); (with_reducible refine (big_MulAdd.calls k3 t192 (Int.tmod a3 1000000) (Int.tmod a4 1000000) t211 _ ?side1 A70.out).mono ?_); (case side1 => exact Go.Proofs.YtddaggnomcoejaaDoor.Room.PowTab_below HG.out (by repeat (first | (with_reducible first | exact HB.out | apply below_alloc | apply pw_below_drewN | apply below_drew1) | exact HB.out))); rintro e w96 ⟨rfl, hb⟩; have n0_ := Aside0.mk (Kd.R_below (by (with_reducible repeat (first | apply Kd.R_alloc | apply Kd.R_drewN | apply Kd.R_drew)); exact HO_90.out) hb); have n1_ := Aside0.mk (below_step (by repeat (first | (with_reducible first | exact HB.out | apply below_alloc | apply pw_below_drewN | apply below_drew1) | exact HB.out)) hb); clear HO_90; clear HB; have HO_90 := n0_; have HB := n1_; clear n0_ n1_; (try clear hb); (try clear hb2); (try clear hk); (try clear hi)) | (go_at_call 22; (try (rename_i hK_; simp only [List.append] at hK_)); (with_reducible refine (targumref4_MulAdd.calls k3 t192 (Int.tmod a3 1000000) (Int.tmod a4 1000000) t212 _ A71.out).mono ?_); rintro e w97 ⟨rfl, hb⟩; have n0_ := Aside0.mk (Kd.R_below (by (with_reducible repeat (first | apply Kd.R_alloc | apply Kd.R_drewN | apply Kd.R_drew)); exact HO_90.out) hb); have n1_ := Aside0.mk (below_step (by repeat (first | (with_reducible first | exact HB.out | apply below_alloc | apply pw_below_drewN | apply below_drew1) | exact HB.out)) hb); clear HO_90; clear HB; have HO_90 := n0_; have HB := n1_; clear n0_ n1_; (try clear hb); (try clear hb2); (try clear hk); (try clear hi)) | (go_at_call 23; (try (rename_i hK_; simp only [List.append] at hK_)); (with_reducible refine (big_Add.calls k3 t192 (Int.tmod a3 1000000) t213 _ ?side1 A73.out).mono ?_); (case side1 => exact Go.Proofs.YtddaggnomcoejaaDoor.Room.PowTab_below HG.out (by repeat (first | (with_reducible first | exact HB.out | apply below_alloc | apply pw_below_drewN | apply below_drew1) | exact HB.out))); rintro e w98 ⟨rfl, hb⟩; have n0_ := Aside0.mk (Kd.R_below (by (with_reducible repeat (first | apply Kd.R_alloc | apply Kd.R_drewN | apply Kd.R_drew)); exact HO_90.out) hb); have n1_ := Aside0.mk (below_step (by repeat (first | (with_reducible first | exact HB.out | apply below_alloc | apply pw_below_drewN | apply below_drew1) | exact HB.out)) hb); clear HO_90; clear HB; have HO_90 := n0_; have HB := n1_; clear n0_ n1_; (try clear hb); (try clear hb2); (try clear hk); (try clear hi)) | (go_at_call 24; (try (rename_i hK_; simp only [List.append] at hK_)); (with_reducible refine (targumref4_Add.calls k3 t192 (Int.tmod a3 1000000) t214 _ A74.out).mono ?_); rintro e w99 ⟨rfl, hb⟩; have n0_ := Aside0.mk (Kd.R_below (by (with_reducible repeat (first | apply Kd.R_alloc | apply Kd.R_drewN | apply Kd.R_drew)); exact HO_90.out) hb); have n1_ := Aside0.mk (below_step (by repeat (first | (with_reducible first | exact HB.out | apply below_alloc | apply pw_below_drewN | apply below_drew1) | exact HB.out)) hb); clear HO_90; clear HB; have HO_90 := n0_; have HB := n1_; clear n0_ n1_; (try clear hb); (try clear hb2); (try clear hk); (try clear hi)) | (go_at_call 23; (try (rename_i hK_; simp only [List.append] at hK_)); (with_reducible refine (big_Add.calls k3 t193 (wrap64 (-(Int.tmod a4 1000000))) t215 _ ?side1 A76.out).mono ?_); (case side1 => exact Go.Proofs.YtddaggnomcoejaaDoor.Room.PowTab_below HG.out (by repeat (first | (with_reducible first | exact HB.out | apply below_alloc | apply pw_below_drewN | apply below_drew1) | exact HB.out))); rintro e w100 ⟨rfl, hb⟩; have n0_ := Aside0.mk (Kd.R_below (by (with_reducible repeat (first | apply Kd.R_alloc | apply Kd.R_drewN | apply Kd.R_drew)); exact HO_90.out) hb); have n1_ := Aside0.mk (below_step (by repeat (first | (with_reducible first | exact HB.out | apply below_alloc | apply pw_below_drewN | apply below_drew1) | exact HB.out)) hb); clear HO_90; clear HB; have HO_90 := n0_; have HB := n1_; clear n0_ n1_; (try clear hb); (try clear hb2); (try clear hk); (try clear hi)) | (go_at_call 24; (try (rename_i hK_; simp only [List.append] at hK_)); (with_reducible refine (targumref4_Add.calls k3 t193 (wrap64 (-(Int.tmod a4 1000000))) t216 _ A77.out).mono ?_); rintro e w101 ⟨rfl, hb⟩; have n0_ := Aside0.mk (Kd.R_below (by (with_reducible repeat (first | apply Kd.R_alloc | apply Kd.R_drewN | apply Kd.R_drew)); exact HO_90.out) hb); have n1_ := Aside0.mk (below_step (by repeat (first | (with_reducible first | exact HB.out | apply below_alloc | apply pw_below_drewN | apply below_drew1) | exact HB.out)) hb); clear HO_90; clear HB; have HO_90 := n0_; have HB := n1_; clear n0_ n1_; (try clear hb); (try clear hb2); (try clear hk); (try clear hi)) | (go_at_call 25; (try (rename_i hK_; simp only [List.append] at hK_)); (with_reducible refine (big_Compare.calls k3 t192 t193 t217 _ A79.out).mono ?_); rintro e w102 ⟨rfl, hb⟩; have n0_ := Aside0.mk (Kd.R_below (by (with_reducible repeat (first | apply Kd.R_alloc | apply Kd.R_drewN | apply Kd.R_drew)); exact HO_90.out) hb); have n1_ := Aside0.mk (below_step (by repeat (first | (with_reducible first | exact HB.out | apply below_alloc | apply pw_below_drewN | apply below_drew1) | exact HB.out)) hb); clear HO_90; clear HB; have HO_90 := n0_; have HB := n1_; clear n0_ n1_; (try clear hb); (try clear hb2); (try clear hk); (try clear hi); clear A79) | (go_at_call 26; (try (rename_i hK_; simp only [List.append] at hK_)); (with_reducible refine (targumref4_Compare.calls k3 t192 t193 t218 _ A80.out).mono ?_); rintro e w' ⟨rfl, ⟨nd, rfl⟩⟩; clear A80) | (go_at_call 15; (try (rename_i hK_; simp only [List.append] at hK_)); (with_reducible refine (targumref4_Norm.calls k3 a2 a1 t219 _ A82.out).mono ?_); rintro e w' ⟨rfl, ⟨nd, rfl⟩⟩; clear A82) | (go_at_call 25; (try (rename_i hK_; simp only [List.append] at hK_)); (with_reducible refine (big_Compare.calls k3 t192 t219 t220 _ A83.out).mono ?_); rintro e w103 ⟨rfl, hb⟩; have n0_ := Aside0.mk (Kd.R_below (by (with_reducible repeat (first | apply Kd.R_alloc | apply Kd.R_drewN | apply Kd.R_drew)); exact HO_90.out) hb); have n1_ := Aside0.mk (below_step (by repeat (first | (with_reducible first | exact HB.out | apply below_alloc | apply pw_below_drewN | apply below_drew1) | exact HB.out)) hb); clear HO_90; clear HB; have HO_90 := n0_; have HB := n1_; clear n0_ n1_; (try clear hb); (try clear hb2); (try clear hk); (try clear hi); clear A83) | (go_at_call 15; (try (rename_i hK_; simp only [List.append] at hK_)); (with_reducible refine (targumref4_Norm.calls k3 a2 a1 t221 _ A84.out).mono ?_); rintro e w' ⟨rfl, ⟨nd, rfl⟩⟩; clear A84) | (go_at_call 26; (try (rename_i hK_; simp only [List.append] at hK_)); (with_reducible refine (targumref4_Compare.calls k3 t192 t221 t222 _ A85.out).mono ?_); rintro e w' ⟨rfl, ⟨nd, rfl⟩⟩; clear A85))
                                go_ret
                                exact ⟨by first | rfl | (simp [errW_none, errW_some] <;> rfl) | (simp [*, errW_none, errW_some] <;> rfl) | ((generalize ByteArray.toList _ = z_); cases z_ <;> first | rfl | (simp; done)), by repeat (first | (with_reducible first | exact HB.out | apply below_alloc | apply pw_below_drewN | apply below_drew1) | exact HB.out)⟩
                            · rw [if_neg c81] at H
                              have c81b0 : (t217 == t218) = false := beq_eq_false_iff_ne.mpr c81
                              have c81b1 : (t217 != t218) = true := bne_iff_ne.mpr c81
                              obtain rfl := Option.some.inj H
                              go_wp2_with (first | (go_at_call 21; (try (rename_i hK_; simp only [List.append] at hK_)); (with_reducible refine (big_MulAdd.calls k3 t192 (Int.tmod a3 1000000) (Int.tmod a4 1000000) t211 _ ?side1 A70.out).mono ?_); (case side1 => exact Go.Proofs.YtddaggnomcoejaaDoor.Room.PowTab_below HG.out (by repeat (first | (with_reducible first | exact HB.out | apply below_alloc | apply pw_below_drewN | apply below_drew1) | exact HB.out))); rintro e w104 ⟨rfl, hb⟩; have n0_ := Aside0.mk (Kd.R_below (by (with_reducible repeat (first | apply Kd.R_alloc | apply Kd.R_drewN | apply Kd.R_drew)); exact HO_90.out) hb); have n1_ := Aside0.mk (below_step (by repeat (first | (with_reducible first | exact HB.out | apply below_alloc | apply pw_below_drewN | apply below_drew1) | exact HB.out)) hb); clear HO_90; clear HB; have HO_90 := n0_; have HB := n1_; clear n0_ n1_; (try clear hb); (try clear hb2); (try clear hk); (try clear hi)) | (go_at_call 22; (try (rename_i hK_; simp only [List.append] at hK_)); (with_reducible refine (targumref4_MulAdd.calls k3 t192 (Int.tmod a3 1000000) (Int.tmod a4 1000000) t212 _ A71.out).mono ?_); rintro e w105 ⟨rfl, hb⟩; have n0_ := Aside0.mk (Kd.R_below (by (with_reducible repeat (first | apply Kd.R_alloc | apply Kd.R_drewN | apply Kd.R_drew)); exact HO_90.out) hb); have n1_ := Aside0.mk (below_step (by repeat (first | (with_reducible first | exact HB.out | apply below_alloc | apply pw_below_drewN | apply below_drew1) | exact HB.out)) hb); clear HO_90; clear HB; have HO_90 := n0_; have HB := n1_; clear n0_ n1_; (try clear hb); (try clear hb2); (try clear hk); (try clear hi)) | (go_at_call 23; (try (rename_i hK_; simp only [List.append] at hK_)); (with_reducible refine (big_Add.calls k3 t192 (Int.tmod a3 1000000) t213 _ ?side1 A73.out).mono ?_); (case side1 => exact Go.Proofs.YtddaggnomcoejaaDoor.Room.PowTab_below HG.out (by repeat (first | (with_reducible first | exact HB.out | apply below_alloc | apply pw_below_drewN | apply below_drew1) | exact HB.out))); rintro e w106 ⟨rfl, hb⟩; have n0_ := Aside0.mk (Kd.R_below (by (with_reducible repeat (first | apply Kd.R_alloc | apply Kd.R_drewN | apply Kd.R_drew)); exact HO_90.out) hb); have n1_ := Aside0.mk (below_step (by repeat (first | (with_reducible first | exact HB.out | apply below_alloc | apply pw_below_drewN | apply below_drew1) | exact HB.out)) hb); clear HO_90; clear HB; have HO_90 := n0_; have HB := n1_; clear n0_ n1_; (try clear hb); (try clear hb2); (try clear hk); (try clear hi)) | (go_at_call 24; (try (rename_i hK_; simp only [List.append] at hK_)); (with_reducible refine (targumref4_Add.calls k3 t192 (Int.tmod a3 1000000) t214 _ A74.out).mono ?_); rintro e w107 ⟨rfl, hb⟩; have n0_ := Aside0.mk (Kd.R_below (by (with_reducible repeat (first | apply Kd.R_alloc | apply Kd.R_drewN | apply Kd.R_drew)); exact HO_90.out) hb); have n1_ := Aside0.mk (below_step (by repeat (first | (with_reducible first | exact HB.out | apply below_alloc | apply pw_below_drewN | apply below_drew1) | exact HB.out)) hb); clear HO_90; clear HB; have HO_90 := n0_; have HB := n1_; clear n0_ n1_; (try clear hb); (try clear hb2); (try clear hk); (try clear hi)) | (go_at_call 23; (try (rename_i hK_; simp only [List.append] at hK_)); (with_reducible refine (big_Add.calls k3 t193 (wrap64 (-(Int.tmod a4 1000000))) t215 _ ?side1 A76.out).mono ?_); (case side1 => exact Go.Proofs.YtddaggnomcoejaaDoor.Room.PowTab_below HG.out (by repeat (first | (with_reducible first | exact HB.out | apply below_alloc | apply pw_below_drewN | apply below_drew1) | exact HB.out))); rintro e w108 ⟨rfl, hb⟩; have n0_ := Aside0.mk (Kd.R_below (by (with_reducible repeat (first | apply Kd.R_alloc | apply Kd.R_drewN | apply Kd.R_drew)); exact HO_90.out) hb); have n1_ := Aside0.mk (below_step (by repeat (first | (with_reducible first | exact HB.out | apply below_alloc | apply pw_below_drewN | apply below_drew1) | exact HB.out)) hb); clear HO_90; clear HB; have HO_90 := n0_; have HB := n1_; clear n0_ n1_; (try clear hb); (try clear hb2); (try clear hk); (try clear hi)) | (go_at_call 24; (try (rename_i hK_; simp only [List.append] at hK_)); (with_reducible refine (targumref4_Add.calls k3 t193 (wrap64 (-(Int.tmod a4 1000000))) t216 _ A77.out).mono ?_); rintro e w109 ⟨rfl, hb⟩; have n0_ := Aside0.mk (Kd.R_below (by (with_reducible repeat (first | apply Kd.R_alloc | apply Kd.R_drewN | apply Kd.R_drew)); exact HO_90.out) hb); have n1_ := Aside0.mk (below_step (by repeat (first | (with_reducible first | exact HB.out | apply below_alloc | apply pw_below_drewN | apply below_drew1) | exact HB.out)) hb); clear HO_90; clear HB; have HO_90 := n0_; have HB := n1_; clear n0_ n1_; (try clear hb); (try clear hb2); (try clear hk); (try clear hi)) | (go_at_call 25; (try (rename_i hK_; simp only [List.append] at hK_)); (with_reducible refine (big_Compare.calls k3 t192 t193 t217 _ A79.out).mono ?_); rintro e w110 ⟨rfl, hb⟩; have n0_ := Aside0.mk (Kd.R_below (by (with_reducible repeat (first | apply Kd.R_alloc | apply Kd.R_drewN | apply Kd.R_drew)); exact HO_90.out) hb); have n1_ := Aside0.mk (below_step (by repeat (first | (with_reducible first | exact HB.out | apply below_alloc | apply pw_below_drewN | apply below_drew1) | exact HB.out)) hb); clear HO_90; clear HB; have HO_90 := n0_; have HB := n1_; clear n0_ n1_; (try clear hb); (try clear hb2); (try clear hk); (try clear hi)) | (go_at_call 26; (try (rename_i hK_; simp only [List.append] at hK_)); (with_reducible refine (targumref4_Compare.calls k3 t192 t193 t218 _ A80.out).mono ?_); rintro e w' ⟨rfl, ⟨nd, rfl⟩⟩))
                              go_ret
                              exact ⟨by first | rfl | (simp [errW_none, errW_some] <;> rfl) | (simp [*, errW_none, errW_some] <;> rfl) | ((generalize ByteArray.toList _ = z_); cases z_ <;> first | rfl | (simp; done)), by repeat (first | (with_reducible first | exact HB.out | apply below_alloc | apply pw_below_drewN | apply below_drew1) | exact HB.out)⟩
                          · rw [if_neg c78] at H
                            have c78b0 : (t215.toList == t216.toList) = false := beq_eq_false_iff_ne.mpr c78
                            have c78b1 : (t215.toList != t216.toList) = true := bne_iff_ne.mpr c78
                            obtain rfl := Option.some.inj H
                            go_wp2_with (first | (go_at_call 21; (try (rename_i hK_; simp only [List.append] at hK_)); (with_reducible refine (big_MulAdd.calls k3 t192 (Int.tmod a3 1000000) (Int.tmod a4 1000000) t211 _ ?side1 A70.out).mono ?_); (case side1 => exact Go.Proofs.YtddaggnomcoejaaDoor.Room.PowTab_below HG.out (by repeat (first | (with_reducible first | exact HB.out | apply below_alloc | apply pw_below_drewN | apply below_drew1) | exact HB.out))); rintro e w111 ⟨rfl, hb⟩; have n0_ := Aside0.mk (Kd.R_below (by (with_reducible repeat (first | apply Kd.R_alloc | apply Kd.R_drewN | apply Kd.R_drew)); exact HO_90.out) hb); have n1_ := Aside0.mk (below_step (by repeat (first | (with_reducible first | exact HB.out | apply below_alloc | apply pw_below_drewN | apply below_drew1) | exact HB.out)) hb); clear HO_90; clear HB; have HO_90 := n0_; have HB := n1_; clear n0_ n1_; (try clear hb); (try clear hb2); (try clear hk); (try clear hi)) | (go_at_call 22; (try (rename_i hK_; simp only [List.append] at hK_)); (with_reducible refine (targumref4_MulAdd.calls k3 t192 (Int.tmod a3 1000000) (Int.tmod a4 1000000) t212 _ A71.out).mono ?_); rintro e w112 ⟨rfl, hb⟩; have n0_ := Aside0.mk (Kd.R_below (by (with_reducible repeat (first | apply Kd.R_alloc | apply Kd.R_drewN | apply Kd.R_drew)); exact HO_90.out) hb); have n1_ := Aside0.mk (below_step (by repeat (first | (with_reducible first | exact HB.out | apply below_alloc | apply pw_below_drewN | apply below_drew1) | exact HB.out)) hb); clear HO_90; clear HB; have HO_90 := n0_; have HB := n1_; clear n0_ n1_; (try clear hb); (try clear hb2); (try clear hk); (try clear hi)) | (go_at_call 23; (try (rename_i hK_; simp only [List.append] at hK_)); (with_reducible refine (big_Add.calls k3 t192 (Int.tmod a3 1000000) t213 _ ?side1 A73.out).mono ?_); (case side1 => exact Go.Proofs.YtddaggnomcoejaaDoor.Room.PowTab_below HG.out (by repeat (first | (with_reducible first | exact HB.out | apply below_alloc | apply pw_below_drewN | apply below_drew1) | exact HB.out))); rintro e w113 ⟨rfl, hb⟩; have n0_ := Aside0.mk (Kd.R_below (by (with_reducible repeat (first | apply Kd.R_alloc | apply Kd.R_drewN | apply Kd.R_drew)); exact HO_90.out) hb); have n1_ := Aside0.mk (below_step (by repeat (first | (with_reducible first | exact HB.out | apply below_alloc | apply pw_below_drewN | apply below_drew1) | exact HB.out)) hb); clear HO_90; clear HB; have HO_90 := n0_; have HB := n1_; clear n0_ n1_; (try clear hb); (try clear hb2); (try clear hk); (try clear hi)) | (go_at_call 24; (try (rename_i hK_; simp only [List.append] at hK_)); (with_reducible refine (targumref4_Add.calls k3 t192 (Int.tmod a3 1000000) t214 _ A74.out).mono ?_); rintro e w114 ⟨rfl, hb⟩; have n0_ := Aside0.mk (Kd.R_below (by (with_reducible repeat (first | apply Kd.R_alloc | apply Kd.R_drewN | apply Kd.R_drew)); exact HO_90.out) hb); have n1_ := Aside0.mk (below_step (by repeat (first | (with_reducible first | exact HB.out | apply below_alloc | apply pw_below_drewN | apply below_drew1) | exact HB.out)) hb); clear HO_90; clear HB; have HO_90 := n0_; have HB := n1_; clear n0_ n1_; (try clear hb); (try clear hb2); (try clear hk); (try clear hi)) | (go_at_call 23; (try (rename_i hK_; simp only [List.append] at hK_)); (with_reducible refine (big_Add.calls k3 t193 (wrap64 (-(Int.tmod a4 1000000))) t215 _ ?side1 A76.out).mono ?_); (case side1 => exact Go.Proofs.YtddaggnomcoejaaDoor.Room.PowTab_below HG.out (by repeat (first | (with_reducible first | exact HB.out | apply below_alloc | apply pw_below_drewN | apply below_drew1) | exact HB.out))); rintro e w115 ⟨rfl, hb⟩; have n0_ := Aside0.mk (Kd.R_below (by (with_reducible repeat (first | apply Kd.R_alloc | apply Kd.R_drewN | apply Kd.R_drew)); exact HO_90.out) hb); have n1_ := Aside0.mk (below_step (by repeat (first | (with_reducible first | exact HB.out | apply below_alloc | apply pw_below_drewN | apply below_drew1) | exact HB.out)) hb); clear HO_90; clear HB; have HO_90 := n0_; have HB := n1_; clear n0_ n1_; (try clear hb); (try clear hb2); (try clear hk); (try clear hi)) | (go_at_call 24; (try (rename_i hK_; simp only [List.append] at hK_)); (with_reducible refine (targumref4_Add.calls k3 t193 (wrap64 (-(Int.tmod a4 1000000))) t216 _ A77.out).mono ?_); rintro e w116 ⟨rfl, hb⟩; have n0_ := Aside0.mk (Kd.R_below (by (with_reducible repeat (first | apply Kd.R_alloc | apply Kd.R_drewN | apply Kd.R_drew)); exact HO_90.out) hb); have n1_ := Aside0.mk (below_step (by repeat (first | (with_reducible first | exact HB.out | apply below_alloc | apply pw_below_drewN | apply below_drew1) | exact HB.out)) hb); clear HO_90; clear HB; have HO_90 := n0_; have HB := n1_; clear n0_ n1_; (try clear hb); (try clear hb2); (try clear hk); (try clear hi)))
                            go_ret
                            exact ⟨by first | rfl | (simp [errW_none, errW_some] <;> rfl) | (simp [*, errW_none, errW_some] <;> rfl) | ((generalize ByteArray.toList _ = z_); cases z_ <;> first | rfl | (simp; done)), by repeat (first | (with_reducible first | exact HB.out | apply below_alloc | apply pw_below_drewN | apply below_drew1) | exact HB.out)⟩
                        · rw [if_neg c75] at H
                          have c75b0 : (t213.toList == t214.toList) = false := beq_eq_false_iff_ne.mpr c75
                          have c75b1 : (t213.toList != t214.toList) = true := bne_iff_ne.mpr c75
                          obtain rfl := Option.some.inj H
                          go_wp2_with (first | (go_at_call 21; (try (rename_i hK_; simp only [List.append] at hK_)); (with_reducible refine (big_MulAdd.calls k3 t192 (Int.tmod a3 1000000) (Int.tmod a4 1000000) t211 _ ?side1 A70.out).mono ?_); (case side1 => exact Go.Proofs.YtddaggnomcoejaaDoor.Room.PowTab_below HG.out (by repeat (first | (with_reducible first | exact HB.out | apply below_alloc | apply pw_below_drewN | apply below_drew1) | exact HB.out))); rintro e w117 ⟨rfl, hb⟩; have n0_ := Aside0.mk (Kd.R_below (by (with_reducible repeat (first | apply Kd.R_alloc | apply Kd.R_drewN | apply Kd.R_drew)); exact HO_90.out) hb); have n1_ := Aside0.mk (below_step (by repeat (first | (with_reducible first | exact HB.out | apply below_alloc | apply pw_below_drewN | apply below_drew1) | exact HB.out)) hb); clear HO_90; clear HB; have HO_90 := n0_; have HB := n1_; clear n0_ n1_; (try clear hb); (try clear hb2); (try clear hk); (try clear hi)) | (go_at_call 22; (try (rename_i hK_; simp only [List.append] at hK_)); (with_reducible refine (targumref4_MulAdd.calls k3 t192 (Int.tmod a3 1000000) (Int.tmod a4 1000000) t212 _ A71.out).mono ?_); rintro e w118 ⟨rfl, hb⟩; have n0_ := Aside0.mk (Kd.R_below (by (with_reducible repeat (first | apply Kd.R_alloc | apply Kd.R_drewN | apply Kd.R_drew)); exact HO_90.out) hb); have n1_ := Aside0.mk (below_step (by repeat (first | (with_reducible first | exact HB.out | apply below_alloc | apply pw_below_drewN | apply below_drew1) | exact HB.out)) hb); clear HO_90; clear HB; have HO_90 := n0_; have HB := n1_; clear n0_ n1_; (try clear hb); (try clear hb2); (try clear hk); (try clear hi)) | (go_at_call 23; (try (rename_i hK_; simp only [List.append] at hK_)); (with_reducible refine (big_Add.calls k3 t192 (Int.tmod a3 1000000) t213 _ ?side1 A73.out).mono ?_); (case side1 => exact Go.Proofs.YtddaggnomcoejaaDoor.Room.PowTab_below HG.out (by repeat (first | (with_reducible first | exact HB.out | apply below_alloc | apply pw_below_drewN | apply below_drew1) | exact HB.out))); rintro e w119 ⟨rfl, hb⟩; have n0_ := Aside0.mk (Kd.R_below (by (with_reducible repeat (first | apply Kd.R_alloc | apply Kd.R_drewN | apply Kd.R_drew)); exact HO_90.out) hb); have n1_ := Aside0.mk (below_step (by repeat (first | (with_reducible first | exact HB.out | apply below_alloc | apply pw_below_drewN | apply below_drew1) | exact HB.out)) hb); clear HO_90; clear HB; have HO_90 := n0_; have HB := n1_; clear n0_ n1_; (try clear hb); (try clear hb2); (try clear hk); (try clear hi)) | (go_at_call 24; (try (rename_i hK_; simp only [List.append] at hK_)); (with_reducible refine (targumref4_Add.calls k3 t192 (Int.tmod a3 1000000) t214 _ A74.out).mono ?_); rintro e w120 ⟨rfl, hb⟩; have n0_ := Aside0.mk (Kd.R_below (by (with_reducible repeat (first | apply Kd.R_alloc | apply Kd.R_drewN | apply Kd.R_drew)); exact HO_90.out) hb); have n1_ := Aside0.mk (below_step (by repeat (first | (with_reducible first | exact HB.out | apply below_alloc | apply pw_below_drewN | apply below_drew1) | exact HB.out)) hb); clear HO_90; clear HB; have HO_90 := n0_; have HB := n1_; clear n0_ n1_; (try clear hb); (try clear hb2); (try clear hk); (try clear hi)))
                          go_ret
                          exact ⟨by first | rfl | (simp [errW_none, errW_some] <;> rfl) | (simp [*, errW_none, errW_some] <;> rfl) | ((generalize ByteArray.toList _ = z_); cases z_ <;> first | rfl | (simp; done)), by repeat (first | (with_reducible first | exact HB.out | apply below_alloc | apply pw_below_drewN | apply below_drew1) | exact HB.out)⟩
                      · rw [if_neg c72] at H
                        have c72b0 : (t211.toList == t212.toList) = false := beq_eq_false_iff_ne.mpr c72
                        have c72b1 : (t211.toList != t212.toList) = true := bne_iff_ne.mpr c72
                        obtain rfl := Option.some.inj H
                        go_wp2_with (first | (go_at_call 21; (try (rename_i hK_; simp only [List.append] at hK_)); (with_reducible refine (big_MulAdd.calls k3 t192 (Int.tmod a3 1000000) (Int.tmod a4 1000000) t211 _ ?side1 A70.out).mono ?_); (case side1 => exact Go.Proofs.YtddaggnomcoejaaDoor.Room.PowTab_below HG.out (by repeat (first | (with_reducible first | exact HB.out | apply below_alloc | apply pw_below_drewN | apply below_drew1) | exact HB.out))); rintro e w121 ⟨rfl, hb⟩; have n0_ := Aside0.mk (Kd.R_below (by (with_reducible repeat (first | apply Kd.R_alloc | apply Kd.R_drewN | apply Kd.R_drew)); exact HO_90.out) hb); have n1_ := Aside0.mk (below_step (by repeat (first | (with_reducible first | exact HB.out | apply below_alloc | apply pw_below_drewN | apply below_drew1) | exact HB.out)) hb); clear HO_90; clear HB; have HO_90 := n0_; have HB := n1_; clear n0_ n1_; (try clear hb); (try clear hb2); (try clear hk); (try clear hi)) | (go_at_call 22; (try (rename_i hK_; simp only [List.append] at hK_)); (with_reducible refine (targumref4_MulAdd.calls k3 t192 (Int.tmod a3 1000000) (Int.tmod a4 1000000) t212 _ A71.out).mono ?_); rintro e w122 ⟨rfl, hb⟩; have n0_ := Aside0.mk (Kd.R_below (by (with_reducible repeat (first | apply Kd.R_alloc | apply Kd.R_drewN | apply Kd.R_drew)); exact HO_90.out) hb); have n1_ := Aside0.mk (below_step (by repeat (first | (with_reducible first | exact HB.out | apply below_alloc | apply pw_below_drewN | apply below_drew1) | exact HB.out)) hb); clear HO_90; clear HB; have HO_90 := n0_; have HB := n1_; clear n0_ n1_; (try clear hb); (try clear hb2); (try clear hk); (try clear hi)))
                        go_ret
                        exact ⟨by first | rfl | (simp [errW_none, errW_some] <;> rfl) | (simp [*, errW_none, errW_some] <;> rfl) | ((generalize ByteArray.toList _ = z_); cases z_ <;> first | rfl | (simp; done)), by repeat (first | (with_reducible first | exact HB.out | apply below_alloc | apply pw_below_drewN | apply below_drew1) | exact HB.out)⟩
  · replace c8 := Bool.eq_false_iff.mpr c8
    subst c8
    have H1 : (some false) = some r := by rw [if_neg (show ¬ (false = true) by decide)] at H; exact H
    clear H
    have H := H1
    clear H1
    obtain rfl := Option.some.inj H
    go_enter Tryd.func3, Tryd.ntmps3
    go_wp2_with (first | ((with_reducible refine gate_callee (f := 14) rfl ?_); refine goesL_ (some 19) rfl rfl Tryd.func14 (by kernel_rfl) rfl #[] rfl (by (try simp only [List.map_toArray, List.map_cons, List.map_nil]); first | done | rfl | (simp only [List.length_drop, List.length_take]; rfl)) ?_; (with_reducible refine (targumlaw4_known.calls k  false _ ?side1 A7.out).mono ?_); (case side1 => exact Go.Proofs.YtddaggnomcoejaaDoor.Room.PowTab_below HG.out (by repeat (first | (with_reducible first | exact HB.out | apply below_alloc | apply pw_below_drewN | apply below_drew1) | exact HB.out))); rintro e w123 ⟨rfl, hb⟩; refine ⟨_, rfl, ?_⟩; have n0_ := Aside0.mk (below_step (by repeat (first | (with_reducible first | exact HB.out | apply below_alloc | apply pw_below_drewN | apply below_drew1) | exact HB.out)) hb); clear HB; have HB := n0_; clear n0_; (try clear hb); (try clear hb2); (try clear hk); (try clear hi)))
    go_ret
    exact ⟨by first | rfl | (simp [errW_none, errW_some] <;> rfl) | (simp [*, errW_none, errW_some] <;> rfl) | ((generalize ByteArray.toList _ = z_); cases z_ <;> first | rfl | (simp; done)), by repeat (first | (with_reducible first | exact HB.out | apply below_alloc | apply pw_below_drewN | apply below_drew1) | exact HB.out)⟩

/-- THE ONE PURE STATEMENT of targumlaw4_BigTells: yours. -/
def targumlaw4_BigTells.Pure : Prop := ∀ (a0 : ByteArray) (a1 : ByteArray) (a2 : Bool) (a3 : Int) (a4 : Int) (a5 : Int), a0.size ≤ 140737488351232 → a1.size ≤ 140737488351232 → (Lit.int .i64 a3).wf = true → (Lit.int .i64 a4).wf = true → (Lit.int .i64 a5).wf = true → ∃ k, targumlaw4_BigTells.f k a0 a1 a2 a3 a4 a5 = some true
theorem targumlaw4_BigTells.walk (P : targumlaw4_BigTells.Pure) (a0 : ByteArray) (a1 : ByteArray) (a2 : Bool) (a3 : Int) (a4 : Int) (a5 : Int) (w : World) (w0 : a0.size ≤ 140737488351232) (w1 : a1.size ≤ 140737488351232) (w3 : (Lit.int .i64 a3).wf = true) (w4 : (Lit.int .i64 a4).wf = true) (w5 : (Lit.int .i64 a5).wf = true) (hG : Go.Proofs.YtddaggnomcoejaaDoor.Room.PowTab w) :
    Calls Tryd.prog 3 #[.string a0, .string a1, .bool a2, .int .i64 a3, .int .i64 a4, .int .i64 a5] w fun e w' => e = .returned (.bool true) ∧ Below w.heap.size w w' := by
  obtain ⟨k, h⟩ := P a0 a1 a2 a3 a4 a5 w0 w1 w3 w4 w5
  refine (targumlaw4_BigTells.calls k a0 a1 a2 a3 a4 a5 true w hG h).mono ?_
  rintro e w' ⟨rfl, hd⟩
  exact ⟨rfl, hd⟩

/-! ### strings_Trim: function 69 -/

def strings_Trim.f (a0 : ByteArray) (a1 : ByteArray) : Option (ByteArray) := if a1.data.toList.all (fun b => decide (b.toNat < 128)) = true ∧ a1.size < 1000 ∧ a0.size ≤ 9223372036854775807 then some ⟨(Lib.trimS a0.data.toList a1.data.toList).toArray⟩ else none
theorem strings_Trim.calls (a0 : ByteArray) (a1 : ByteArray) (r : ByteArray) (w : World) (h : strings_Trim.f a0 a1 = some r) :
    Calls Tryd.prog 69 #[.string a0, .string a1] w fun e w' => e = .returned (.string r) ∧ Below w.heap.size w w' := by
  unfold strings_Trim.f at h
  split at h
  · rename_i hc
    obtain ⟨h1, h2, h3⟩ := hc
    obtain rfl := Option.some.inj h
    refine (Any.strings_Trim_laid Tryd.lays160 (by kernel_rfl) a0 a1 w h3 (by omega) (fun j b hb => ?_)).mono fun e w' hh => hh
    exact of_decide_eq_true (List.all_eq_true.1 h1 b (List.mem_of_getElem? hb))
  · cases h

/-! ### dec_digits: function 54 -/
def dec_digits.f (a0 : ByteArray) : Option (Bool) := (strings_Trim.f a0 (⟨#[48, 49, 50, 51, 52, 53, 54, 55, 56, 57]⟩ : ByteArray)).bind fun t224 => (some (t224.toList == ([] : List UInt8)))
set_option maxHeartbeats 8000000 in
set_option maxRecDepth 100000 in
theorem dec_digits.calls (a0 : ByteArray) (r : Bool) (w : World) (h : dec_digits.f a0 = some r) :
    Calls Tryd.prog 54 #[.string a0] w fun e w' => e = .returned (.bool r) ∧ Below w.heap.size w w' := by
  have HB := Aside0.mk (Below.refl w.heap.size w)
  have H : ((strings_Trim.f a0 (⟨#[48, 49, 50, 51, 52, 53, 54, 55, 56, 57]⟩ : ByteArray)).bind fun t224 => (some (t224.toList == ([] : List UInt8)))) = some r := h
  clear h
  replace H := Option.bind_eq_some_iff.mp H
  obtain ⟨t224, A20, H⟩ := H
  replace H : (some (t224.toList == ([] : List UInt8))) = some r := H
  have A2 := Aside0.mk A20
  clear A20
  obtain rfl := Option.some.inj H
  go_enter Tryd.func54, Tryd.ntmps54
  go_wp2_with (first | ((with_reducible refine gate_callee (f := 69) rfl ?_); refine goesL_ (some 4) rfl rfl Tryd.func69 (by kernel_rfl) rfl #[.string a0, .string (⟨#[48, 49, 50, 51, 52, 53, 54, 55, 56, 57]⟩ : ByteArray)] rfl (by (try simp only [List.map_toArray, List.map_cons, List.map_nil]); first | done | rfl | (simp only [List.length_drop, List.length_take]; rfl)) ?_; (with_reducible refine (strings_Trim.calls a0 (⟨#[48, 49, 50, 51, 52, 53, 54, 55, 56, 57]⟩ : ByteArray) t224 _ A2.out).mono ?_); rintro e w3 ⟨rfl, hb⟩; refine ⟨_, rfl, ?_⟩; have n0_ := Aside0.mk (below_step (by repeat (first | (with_reducible first | exact HB.out | apply below_alloc | apply pw_below_drewN | apply below_drew1) | exact HB.out)) hb); clear HB; have HB := n0_; clear n0_; (try clear hb); (try clear hb2); (try clear hk); (try clear hi)))
  go_ret
  exact ⟨by first | rfl | (simp [errW_none, errW_some] <;> rfl) | (simp [*, errW_none, errW_some] <;> rfl) | ((generalize ByteArray.toList _ = z_); cases z_ <;> first | rfl | (simp; done)), by repeat (first | (with_reducible first | exact HB.out | apply below_alloc | apply pw_below_drewN | apply below_drew1) | exact HB.out)⟩

/-! ### strings_TrimRight: function 55 -/

def strings_TrimRight.f (a0 : ByteArray) (a1 : ByteArray) : Option (ByteArray) := if a1.data.toList.all (fun b => decide (b.toNat < 128)) = true ∧ a1.size < 1000 ∧ a0.size ≤ 9223372036854775807 then some ⟨(Lib.trimRightS a0.data.toList a1.data.toList).toArray⟩ else none
theorem strings_TrimRight.calls (a0 : ByteArray) (a1 : ByteArray) (r : ByteArray) (w : World) (h : strings_TrimRight.f a0 a1 = some r) :
    Calls Tryd.prog 55 #[.string a0, .string a1] w fun e w' => e = .returned (.string r) ∧ Below w.heap.size w w' := by
  unfold strings_TrimRight.f at h
  split at h
  · rename_i hc
    obtain ⟨h1, h2, h3⟩ := hc
    obtain rfl := Option.some.inj h
    refine (Any.strings_TrimRight_laid Tryd.lays162 (by kernel_rfl) a0 a1 w h3 (by omega) (fun j b hb => ?_)).mono fun e w' hh => hh
    exact of_decide_eq_true (List.all_eq_true.1 h1 b (List.mem_of_getElem? hb))
  · cases h

/-! ### dec_nought: function 56 -/
def dec_nought.f (a0 : Bool) : Option (Int × Bool × ByteArray × ByteArray) := some (0, a0, (⟨#[48]⟩ : ByteArray), (⟨#[48]⟩ : ByteArray))
set_option maxHeartbeats 8000000 in
set_option maxRecDepth 100000 in
theorem dec_nought.calls (a0 : Bool) (r1 : Int) (r2 : Bool) (r3 : ByteArray) (r4 : ByteArray) (w : World) (h : dec_nought.f a0 = some (r1, r2, r3, r4)) :
    Calls Tryd.prog 56 #[.bool a0] w fun e w' => e = .returned (.agg #[.int .i64 r1, .bool r2, .string r3, .string r4]) ∧ Below w.heap.size w w' := by
  have hu40 := Tryd.underlying40
  have HB := Aside0.mk (Below.refl w.heap.size w)
  have H : (some (0, a0, (⟨#[48]⟩ : ByteArray), (⟨#[48]⟩ : ByteArray))) = some (r1, r2, r3, r4) := h
  clear h
  simp only [Option.some.injEq, Prod.mk.injEq] at H
  obtain ⟨rfl, rfl, rfl, rfl⟩ := H
  go_enter Tryd.func56, Tryd.ntmps56
  go_wp2_with (first | ((with_reducible refine gate_dst (N := 2) rfl ?_); refine box_event ?hg (N := 2) ?hd (cs := #[.int .i64 0, .bool false, .string (⟨#[]⟩ : ByteArray), .string (⟨#[]⟩ : ByteArray)]) (t := 40) ?hr ?_; (case hd => rfl); (case hg => rfl); (case hr => first | (go_simp; done) | (go_simp; rfl)); intro gb225 hg w2 hbox hb; have n0_ := Aside0.mk (below_step (by repeat (first | (with_reducible first | exact HB.out | apply below_alloc | apply pw_below_drewN | apply below_drew1) | exact HB.out)) hb); have n1_ := Aside0.mk (hbox); have n2_ := Aside0.mk ((by rw [hg]; exact (below_size (by repeat (first | (with_reducible first | exact HB.out | apply below_alloc | apply pw_below_drewN | apply below_drew1) | exact HB.out))) : w.heap.size ≤ gb225)); have n3_ := Aside0.mk ((by rw [hg]; exact (below_size (by repeat (first | (with_reducible first | exact HB.out | apply below_alloc | apply pw_below_drewN | apply below_drew1) | exact HB.out))) : w.heap.size ≤ gb225)); clear HB; have HB := n0_; have BK225 := n1_; have GW225 := n2_; have GE225 := n3_; clear n0_ n1_ n2_ n3_; clear hb hbox hg; have hcz3_0 : w2.cell? ⟨gb225, 0, none⟩ = some (.int .i64 0) := (blk_cell BK225.out 0).trans rfl; have hcz3_1 : w2.cell? ⟨gb225, 1, none⟩ = some (.bool false) := (blk_cell BK225.out 1).trans rfl; have hcz3_2 : w2.cell? ⟨gb225, 2, none⟩ = some (.string (⟨#[]⟩ : ByteArray)) := (blk_cell BK225.out 2).trans rfl; have hcz3_3 : w2.cell? ⟨gb225, 3, none⟩ = some (.string (⟨#[]⟩ : ByteArray)) := (blk_cell BK225.out 3).trans rfl; have hfz3_0 := blk_frozen BK225.out 0; have hfz3_1 := blk_frozen BK225.out 1; have hfz3_2 := blk_frozen BK225.out 2; have hfz3_3 := blk_frozen BK225.out 3))
  refine bodyPost_ret (results_cell_row rfl _ _ gb225 40 #[.int .i64 0, .bool a0, .string (⟨#[48]⟩ : ByteArray), .string (⟨#[48]⟩ : ByteArray)] (0, 0) _ rfl (by (with_reducible repeat (first | refine blk_drewN ?_ _ | refine blk_drew ?_ | refine blk_alloc ?_ _)); refine blk_put (cs := #[.int .i64 0, .bool a0, .string (⟨#[48]⟩ : ByteArray), .string (⟨#[]⟩ : ByteArray)]) ?_ 3 _ rfl; (with_reducible repeat (first | refine blk_drewN ?_ _ | refine blk_drew ?_ | refine blk_alloc ?_ _)); refine blk_put (cs := #[.int .i64 0, .bool a0, .string (⟨#[]⟩ : ByteArray), .string (⟨#[]⟩ : ByteArray)]) ?_ 2 _ rfl; (with_reducible repeat (first | refine blk_drewN ?_ _ | refine blk_drew ?_ | refine blk_alloc ?_ _)); refine blk_put (cs := #[.int .i64 0, .bool false, .string (⟨#[]⟩ : ByteArray), .string (⟨#[]⟩ : ByteArray)]) ?_ 1 _ rfl; (with_reducible repeat (first | refine blk_drewN ?_ _ | refine blk_drew ?_ | refine blk_alloc ?_ _)); refine blk_put (cs := #[.int .i64 0, .bool false, .string (⟨#[]⟩ : ByteArray), .string (⟨#[]⟩ : ByteArray)]) ?_ 0 _ rfl; (with_reducible repeat (first | refine blk_drewN ?_ _ | refine blk_drew ?_ | refine blk_alloc ?_ _)); exact BK225.out) Tryd.underlying40 rfl (by kernel_rfl)) rfl ?_
  exact ⟨by first | rfl | (simp [errW_none, errW_some] <;> rfl) | (simp [*, errW_none, errW_some] <;> rfl) | ((generalize ByteArray.toList _ = z_); cases z_ <;> first | rfl | (simp; done)), by repeat (first | (with_reducible first | exact HB.out | apply below_alloc | apply pw_below_drewN | apply below_drew1 | refine below_set ?_ GE225.out) | exact HB.out)⟩

end Go.Proofs.YtddaggnomcoejaaDoor.PR
