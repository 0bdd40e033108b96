/- Written by this session's own program (xprint, made over the kit's print): Lean functions with the same answers as the Go functions, and the proofs of that. Not trusted: Lean checks it. -/
import Derived.Test.YtmpdggphhhljhaaDoorPZx0
import Derived.Test.YtmpdggphhhljhaaDoorPZx5
import Derived.Test.YtmpdggphhhljhaaDoorPZx6
import Derived.Test.YtmpdggphhhljhaaDoorXW
namespace Go.Proofs.YtmpdggphhhljhaaDoor.PZ
open Go.Proofs.YtmpdggphhhljhaaDoor.XW Go.RowKit Go.Proofs.YtmpdggphhhljhaaDoorW.PrintWords Go.Proofs.YtmpdggphhhljhaaDoorW.PrintLast Go.Proofs.YtmpdggphhhljhaaDoorW.PrintMore
attribute [local go_sem] max2_int min2_int max_two min_two max_three min_three max_four min_four   -- for this text's walks alone
set_option linter.unusedVariables false
set_option linter.unusedSimpArgs false

/-! ### targumlaw1_UtfSizes: function 5 -/
mutual
def targumlaw1_UtfSizes.j0 : Nat → ByteArray → ByteArray → Bool → Option (Bool)
 | 0, _, _, _ => none
 | k + 1, x0, x1, x27 => if x27 = true then (some true) else (if x0.size + x1.size ≤ 9223372036854775807 then (targumlaw1_UtfSizes.l0 k x0 x1 0 (x0 ++ x1) 0) else (none))
def targumlaw1_UtfSizes.l0 : Nat → ByteArray → ByteArray → Int → ByteArray → Int → Option (Bool)
 | 0, _, _, _, _, _ => none
 | k + 1, x0, x1, x5, x30, x31 => if x31 < (x30.size : Int) then (targumlaw1_UtfSizes.l0 k x0 x1 (wrap64 (x5 + 1)) x30 (x31 + ((Utf8.decode x30 (x31 : Int).toNat).2 : Int))) else (targumlaw1_UtfSizes.l1 k x0 x1 x5 1)
def targumlaw1_UtfSizes.l1 : Nat → ByteArray → ByteArray → Int → Int → Option (Bool)
 | 0, _, _, _, _ => none
 | k + 1, x0, x1, x5, x6 => if x6 ≤ 5 then (if x0.size + x1.size ≤ 9223372036854775807 then ((utf_Size.f k x6 (x0 ++ x1)).bind fun t203 => ((utf_Size.f k x6 x0).bind fun t204 => ((utf_Size.f k x6 x1).bind fun t205 => (if t203 = (wrap64 (t204 + t205)) then ((utf_Encode.f k x6 x0).bind fun t206 => ((utf_Size.f k x6 x0).bind fun t209 => (if (t206.length : Int) = t209 then (targumlaw1_UtfSizes.l1 k x0 x1 x5 (wrap64 (x6 + 1))) else (some false)))) else (some false))))) else (none)) else (if x0.size + x1.size ≤ 9223372036854775807 then ((utf_Size.f k 2 (x0 ++ x1)).bind fun t210 => ((utf_Size.f k 4 (x0 ++ x1)).bind fun t211 => (if t211 = (wrap64 (4 * x5)) then ((utf_Size.f k 5 (x0 ++ x1)).bind fun t212 => (if t212 = (wrap64 (4 * x5)) then (if t210 ≥ (wrap64 (2 * x5)) then (if t210 ≤ (wrap64 (4 * x5)) then ((utf_Size.f k 3 (x0 ++ x1)).bind fun t213 => (if t213 = t210 then ((utf_Size.f k 1 (x0 ++ x1)).bind fun t214 => (some (t214 == (wrap64 ((x0.size : Int) + (x1.size : Int)))))) else (some false))) else (some false)) else (some false)) else (some false))) else (some false)))) else (none))
end
def targumlaw1_UtfSizes.f (k : Nat) (a0 : ByteArray) (a1 : ByteArray) : Option (Bool) := (targumlaw1_known.f k).bind fun t200 => (if t200 = true then (if (a0.size : Int) > 300 then (targumlaw1_UtfSizes.j0 k a0 a1 true) else (if (a1.size : Int) > 300 then (targumlaw1_UtfSizes.j0 k a0 a1 true) else ((targumref1_Well.f k a0).bind fun t201 => (if t201 = true then ((targumref1_Well.f k a1).bind fun t202 => (targumlaw1_UtfSizes.j0 k a0 a1 (!t202))) else (targumlaw1_UtfSizes.j0 k a0 a1 true))))) else (some false))
theorem targumlaw1_UtfSizes.mono_l : ∀ k, (∀ y0 y1 y2, LeO (targumlaw1_UtfSizes.j0 k y0 y1 y2) (targumlaw1_UtfSizes.j0 (k + 1) y0 y1 y2)) ∧ (∀ y0 y1 y2 y3 y4, LeO (targumlaw1_UtfSizes.l0 k y0 y1 y2 y3 y4) (targumlaw1_UtfSizes.l0 (k + 1) y0 y1 y2 y3 y4)) ∧ (∀ y0 y1 y2 y3, LeO (targumlaw1_UtfSizes.l1 k y0 y1 y2 y3) (targumlaw1_UtfSizes.l1 (k + 1) y0 y1 y2 y3))
 | 0 => ⟨fun _ _ _ r h => by simp [targumlaw1_UtfSizes.j0] at h, fun _ _ _ _ _ r h => by simp [targumlaw1_UtfSizes.l0] at h, fun _ _ _ _ r h => by simp [targumlaw1_UtfSizes.l1] at h⟩
 | k + 1 => by
  obtain ⟨ih0, ih1, ih2⟩ := targumlaw1_UtfSizes.mono_l k
  refine ⟨?_, ?_, ?_⟩
  ·intro y0 y1 y2
   unfold targumlaw1_UtfSizes.j0
   repeat' first
   | (with_reducible exact ih0 _ _ _)
   | (with_reducible exact ih1 _ _ _ _ _)
   | (with_reducible exact ih2 _ _ _ _)
   | (with_reducible exact targumlaw1_known.mono _)
   | (with_reducible exact targumref1_Well.mono _ _)
   | (with_reducible exact utf_Encode.mono _ _ _)
   | (with_reducible exact utf_Size.mono _ _ _)
   | (with_reducible exact LeO.refl _)
   | (with_reducible exact LeO.none _)
   | (with_reducible refine LeO.ite ?_ ?_)
   | (with_reducible refine LeO.bind ?_ (fun _ => ?_))
   | exact ih0 _ _ _
   | exact ih1 _ _ _ _ _
   | exact ih2 _ _ _ _
   | exact targumlaw1_known.mono _
   | exact targumref1_Well.mono _ _
   | exact utf_Encode.mono _ _ _
   | exact utf_Size.mono _ _ _
   | exact LeO.none _
   | refine LeO.ite ?_ ?_
   | refine LeO.bind ?_ (fun _ => ?_)
  ·intro y0 y1 y2 y3 y4
   unfold targumlaw1_UtfSizes.l0
   repeat' first
   | (with_reducible exact ih0 _ _ _)
   | (with_reducible exact ih1 _ _ _ _ _)
   | (with_reducible exact ih2 _ _ _ _)
   | (with_reducible exact targumlaw1_known.mono _)
   | (with_reducible exact targumref1_Well.mono _ _)
   | (with_reducible exact utf_Encode.mono _ _ _)
   | (with_reducible exact utf_Size.mono _ _ _)
   | (with_reducible exact LeO.refl _)
   | (with_reducible exact LeO.none _)
   | (with_reducible refine LeO.ite ?_ ?_)
   | (with_reducible refine LeO.bind ?_ (fun _ => ?_))
   | exact ih0 _ _ _
   | exact ih1 _ _ _ _ _
   | exact ih2 _ _ _ _
   | exact targumlaw1_known.mono _
   | exact targumref1_Well.mono _ _
   | exact utf_Encode.mono _ _ _
   | exact utf_Size.mono _ _ _
   | exact LeO.none _
   | refine LeO.ite ?_ ?_
   | refine LeO.bind ?_ (fun _ => ?_)
  ·intro y0 y1 y2 y3
   unfold targumlaw1_UtfSizes.l1
   repeat' first
   | (with_reducible exact ih0 _ _ _)
   | (with_reducible exact ih1 _ _ _ _ _)
   | (with_reducible exact ih2 _ _ _ _)
   | (with_reducible exact targumlaw1_known.mono _)
   | (with_reducible exact targumref1_Well.mono _ _)
   | (with_reducible exact utf_Encode.mono _ _ _)
   | (with_reducible exact utf_Size.mono _ _ _)
   | (with_reducible exact LeO.refl _)
   | (with_reducible exact LeO.none _)
   | (with_reducible refine LeO.ite ?_ ?_)
   | (with_reducible refine LeO.bind ?_ (fun _ => ?_))
   | exact ih0 _ _ _
   | exact ih1 _ _ _ _ _
   | exact ih2 _ _ _ _
   | exact targumlaw1_known.mono _
   | exact targumref1_Well.mono _ _
   | exact utf_Encode.mono _ _ _
   | exact utf_Size.mono _ _ _
   | exact LeO.none _
   | refine LeO.ite ?_ ?_
   | refine LeO.bind ?_ (fun _ => ?_)
theorem targumlaw1_UtfSizes.mono : ∀ a0 a1 k, LeO (targumlaw1_UtfSizes.f k a0 a1) (targumlaw1_UtfSizes.f (k + 1) a0 a1) := by
 intro a0 a1 k
 obtain ⟨ih0, ih1, ih2⟩ := targumlaw1_UtfSizes.mono_l k
 unfold targumlaw1_UtfSizes.f
 repeat' first
   | (with_reducible exact ih0 _ _ _)
   | (with_reducible exact ih1 _ _ _ _ _)
   | (with_reducible exact ih2 _ _ _ _)
   | (with_reducible exact targumlaw1_known.mono _)
   | (with_reducible exact targumref1_Well.mono _ _)
   | (with_reducible exact utf_Encode.mono _ _ _)
   | (with_reducible exact utf_Size.mono _ _ _)
   | (with_reducible exact LeO.refl _)
   | (with_reducible exact LeO.none _)
   | (with_reducible refine LeO.ite ?_ ?_)
   | (with_reducible refine LeO.bind ?_ (fun _ => ?_))
   | exact ih0 _ _ _
   | exact ih1 _ _ _ _ _
   | exact ih2 _ _ _ _
   | exact targumlaw1_known.mono _
   | exact targumref1_Well.mono _ _
   | exact utf_Encode.mono _ _ _
   | exact utf_Size.mono _ _ _
   | exact LeO.none _
   | refine LeO.ite ?_ ?_
   | refine LeO.bind ?_ (fun _ => ?_)
set_option maxHeartbeats 8000000 in
set_option maxRecDepth 100000 in
theorem targumlaw1_UtfSizes.calls (k : Nat) (a0 : ByteArray) (a1 : ByteArray) (r : Bool) (w : World) (hG : Lib.Utf8Tabs 0 1 w) (h : targumlaw1_UtfSizes.f k a0 a1 = some r) :
  Calls Tryd.prog 5 #[.string a0, .string a1] w fun e w' => e = .returned (.bool r) ∧ Below w.heap.size w w' := by
 have HG := Aside0.mk hG
 clear hG
 have HB := Aside0.mk (Below.refl w.heap.size w)
 have H : ((targumlaw1_known.f k).bind fun t200 => (if t200 = true then (if (a0.size : Int) > 300 then (targumlaw1_UtfSizes.j0 k a0 a1 true) else (if (a1.size : Int) > 300 then (targumlaw1_UtfSizes.j0 k a0 a1 true) else ((targumref1_Well.f k a0).bind fun t201 => (if t201 = true then ((targumref1_Well.f k a1).bind fun t202 => (targumlaw1_UtfSizes.j0 k a0 a1 (!t202))) else (targumlaw1_UtfSizes.j0 k a0 a1 true))))) else (some false))) = some r := h
 clear h
 replace H := Option.bind_eq_some_iff.mp H
 obtain ⟨t200, A30, H⟩ := H
 replace H : (if t200 = true then (if (a0.size : Int) > 300 then (targumlaw1_UtfSizes.j0 k a0 a1 true) else (if (a1.size : Int) > 300 then (targumlaw1_UtfSizes.j0 k a0 a1 true) else ((targumref1_Well.f k a0).bind fun t201 => (if t201 = true then ((targumref1_Well.f k a1).bind fun t202 => (targumlaw1_UtfSizes.j0 k a0 a1 (!t202))) else (targumlaw1_UtfSizes.j0 k a0 a1 true))))) else (some false)) = some r := H
 have A3 := Aside0.mk A30
 clear A30
 by_cases c4 : t200 = true
 ·subst c4
  have H1 : (if (a0.size : Int) > 300 then (targumlaw1_UtfSizes.j0 k a0 a1 true) else (if (a1.size : Int) > 300 then (targumlaw1_UtfSizes.j0 k a0 a1 true) else ((targumref1_Well.f k a0).bind fun t201 => (if t201 = true then ((targumref1_Well.f k a1).bind fun t202 => (targumlaw1_UtfSizes.j0 k a0 a1 (!t202))) else (targumlaw1_UtfSizes.j0 k a0 a1 true))))) = some r := by rw [if_pos rfl] at H; exact H
  clear H
  have H := H1
  clear H1
  have HC5 := Aside0.mk H
  clear H
  go_enter Tryd.func5, Tryd.ntmps5
  go_upto_region 3 with (first | ((with_reducible refine gate_callee (f := 10) rfl ?_); refine goesL_ (some 8) rfl rfl Tryd.func10 (by kernel_rfl) rfl #[] rfl (by (try simp only [List.map_toArray, List.map_cons, List.map_nil]); first | done | rfl | (simp only [List.length_drop, List.length_take]; rfl)) ?_; (with_reducible refine (targumlaw1_known.calls k  true _ ?side1 A3.out).mono ?_); (case side1 => exact Utf8Tabs_below HG.out bl); rintro e w6 ⟨rfl, hb⟩; refine ⟨_, rfl, ?_⟩; have n0_ := Aside0.mk (below_step bl hb); clear HB; have HB := n0_; clear n0_; (try clear hb); (try clear hb2); (try clear hk); (try clear hi)))
  (try simp only [Act.put, List.setIfInBounds_toArray, List.set_cons_zero, List.set_cons_succ])
  go_cut [27] (fun v27 wc => ∃ (kq : Nat) (x27_4 : Bool), v27 = .bool x27_4 ∧ Aside0 (targumlaw1_UtfSizes.j0 kq a0 a1 x27_4 = some r) ∧ Aside0 (kq ≤ k) ∧ Aside0 (Below w.heap.size w wc))
  case first =>
   have H := HC5.out
   clear HC5
   by_cases c7 : (a0.size : Int) > 300
   ·rw [if_pos c7] at H
    have c7b0 : decide (300 < (a0.size : Int)) = true := decide_eq_true c7
    have c7b1 : decide (300 < a0.size) = true := decide_eq_true (by omega)
    clear c7
    (first | rw [c7b0] | (simp only [i64_w, i32_w]; rw [c7b0]) | skip)
    have H' := Aside0.mk H
    clear H
    go_wp2
    go_meet
    case rel => exact ⟨_, (true), (by first | rfl | (simp; done) | (simp [*]; done) | (simp [wrap64]; done)), H', ⟨by first | omega | exact Nat.le_refl _⟩, ⟨bl⟩⟩
   ·rw [if_neg c7] at H
    have c7b0 : decide (300 < (a0.size : Int)) = false := decide_eq_false c7
    have c7b1 : decide (300 < a0.size) = false := decide_eq_false (by omega)
    clear c7
    (first | rw [c7b0] | (simp only [i64_w, i32_w]; rw [c7b0]) | skip)
    by_cases c8 : (a1.size : Int) > 300
    ·rw [if_pos c8] at H
     have c8b0 : decide (300 < (a1.size : Int)) = true := decide_eq_true c8
     have c8b1 : decide (300 < a1.size) = true := decide_eq_true (by omega)
     clear c8
     have H' := Aside0.mk H
     clear H
     go_wp2
     go_meet
     case rel => exact ⟨_, (true), (by first | rfl | (simp; done) | (simp [*]; done) | (simp [wrap64]; done)), H', ⟨by first | omega | exact Nat.le_refl _⟩, ⟨bl⟩⟩
    ·rw [if_neg c8] at H
     have c8b0 : decide (300 < (a1.size : Int)) = false := decide_eq_false c8
     have c8b1 : decide (300 < a1.size) = false := decide_eq_false (by omega)
     clear c8
     replace H := Option.bind_eq_some_iff.mp H
     obtain ⟨t201, A90, H⟩ := H
     replace H : (if t201 = true then ((targumref1_Well.f k a1).bind fun t202 => (targumlaw1_UtfSizes.j0 k a0 a1 (!t202))) else (targumlaw1_UtfSizes.j0 k a0 a1 true)) = some r := H
     have A9 := Aside0.mk A90
     clear A90
     by_cases c10 : t201 = true
     ·subst c10
      have H1 : ((targumref1_Well.f k a1).bind fun t202 => (targumlaw1_UtfSizes.j0 k a0 a1 (!t202))) = some r := by rw [if_pos rfl] at H; exact H
      clear H
      have H := H1
      clear H1
      replace H := Option.bind_eq_some_iff.mp H
      obtain ⟨t202, A110, H⟩ := H
      replace H : (targumlaw1_UtfSizes.j0 k a0 a1 (!t202)) = some r := H
      have A11 := Aside0.mk A110
      clear A110
      have H' := Aside0.mk H
      clear H
      go_wp2_with (first | (go_at_call 21; (try (rename_i hK_; simp only [List.append] at hK_)); (with_reducible refine (targumref1_Well.calls k a0 true _ A9.out).mono ?_); rintro e w' ⟨rfl, ⟨nd, rfl⟩⟩) | (go_at_call 21; (try (rename_i hK_; simp only [List.append] at hK_)); (with_reducible refine (targumref1_Well.calls k a1 t202 _ A11.out).mono ?_); rintro e w' ⟨rfl, ⟨nd, rfl⟩⟩))
      go_meet
      case rel => exact ⟨_, (!t202), (by first | rfl | (simp; done) | (simp [*]; done) | (simp [wrap64]; done)), H', ⟨by first | omega | exact Nat.le_refl _⟩, ⟨bl⟩⟩
     ·replace c10 := Bool.eq_false_iff.mpr c10
      subst c10
      have H1 : (targumlaw1_UtfSizes.j0 k a0 a1 true) = some r := by rw [if_neg (show ¬ (false = true) by decide)] at H; exact H
      clear H
      have H := H1
      clear H1
      have H' := Aside0.mk H
      clear H
      go_wp2_with (first | (go_at_call 21; (try (rename_i hK_; simp only [List.append] at hK_)); (with_reducible refine (targumref1_Well.calls k a0 false _ A9.out).mono ?_); rintro e w' ⟨rfl, ⟨nd, rfl⟩⟩))
      go_meet
      case rel => exact ⟨_, (true), (by first | rfl | (simp; done) | (simp [*]; done) | (simp [wrap64]; done)), H', ⟨by first | omega | exact Nat.le_refl _⟩, ⟨bl⟩⟩
  case rest =>
   clear HC5
   try clear c1; try clear p2; try clear c4; try clear c5; try clear c7; try clear c7b0; try clear c7b1; try clear c8; try clear c8b0; try clear c8b1; try clear c10
   obtain ⟨kq, x27_4, rfl, HA, HJ4, HB⟩ := hcut
   cases kq with
   | zero => exact absurd HA.out (by simp [targumlaw1_UtfSizes.j0])
   | succ kj4 =>
    have H := HA.out
    clear HA
    simp only [targumlaw1_UtfSizes.j0] at H
    by_cases c12 : x27_4 = true
    ·subst c12
     have H1 : (some true) = some r := by rw [if_pos rfl] at H; exact H
     clear H
     have H := H1
     clear H1
     obtain rfl := Option.some.inj H
     go_wp2
     go_ret
     exact ⟨by first | rfl | (rw [show wrap64 ((a0.size : Int) + (a1.size : Int)) = (a0.size : Int) + (a1.size : Int) from by unfold wrap64; omega]; try rfl; done) | (simp [errW_none, errW_some] <;> rfl) | (simp [*, errW_none, errW_some] <;> rfl), bl⟩
    ·replace c12 := Bool.eq_false_iff.mpr c12
     subst c12
     have H1 : (if a0.size + a1.size ≤ 9223372036854775807 then (targumlaw1_UtfSizes.l0 kj4 a0 a1 0 (a0 ++ a1) 0) else (none)) = some r := by rw [if_neg (show ¬ (false = true) by decide)] at H; exact H
     clear H
     have H := H1
     clear H1
     by_cases c13 : a0.size + a1.size ≤ 9223372036854775807
     ·rw [if_pos c13] at H
      have c13b0 := eq_true c13
      have c13b1 : decide (a0.size + a1.size ≤ 9223372036854775807) = true := decide_eq_true c13
      try have c13b2 : (9223372036854775807 < a0.size + a1.size) = False := eq_false (Nat.not_lt.2 c13)
      have H' := Aside0.mk H
      clear H
      go_wp2
      have HSz := Aside0.mk HB.out.size
      go_loopg [5] kj4 (fun kq v5 w' => ∃ (x5_2 : Int) (ps : Nat), v5 = .int .i64 x5_2 ∧ Aside0 (targumlaw1_UtfSizes.l0 kq a0 a1 x5_2 (a0 ++ a1) (ps : Int) = some r) ∧ Aside0 (kq ≤ kj4) ∧ Aside0 (w'.heap[wc.heap.size]? = some (.stringIter (a0 ++ a1) ps)) ∧ Aside0 (Below w.heap.size w w'))
      case atStart => exact ⟨(0), 0, (by first | rfl | (simp; done) | (simp [*]; done) | (simp [wrap64]; done)), H', ⟨Nat.le_refl _⟩, ⟨World.iter_heap _ _ _⟩, ⟨HB.out.alloc HSz.out _⟩⟩
      case round =>
       clear H'
       try clear c1; try clear p2; try clear c4; try clear c5; try clear c7; try clear c7b0; try clear c7b1; try clear c8; try clear c8b0; try clear c8b1; try clear c10; try clear c12; try clear c13; try clear c13b0; try clear c13b1; try clear c13b2; try clear p2
       obtain ⟨x5_2, ps, rfl, HA, HK2, HI, HB⟩ := hrel
       cases gk with
       | zero => exact absurd HA.out (by simp [targumlaw1_UtfSizes.l0])
       | succ k2 =>
        have H := HA.out
        clear HA
        simp only [targumlaw1_UtfSizes.l0] at H
        rw [Int.toNat_natCast] at H
        by_cases c14 : (ps : Int) < ((a0 ++ a1).size : Int)
        ·rw [if_pos c14] at H
         have hps : ps < (a0 ++ a1).size := by omega
         have hnx : ∀ ty, (Instr.next (.pointer (some ⟨wc.heap.size, 0, none⟩)) true ty).run Tryd.prog wr = _ := fun ty => Lib.run_next_any_at wr _ (a0 ++ a1) ps ty HI.out hps
         have HI2 : Aside0 ((wr.iterAt wc.heap.size (a0 ++ a1) (ps + (Utf8.decode (a0 ++ a1) ps).2)).heap[wc.heap.size]? = some (.stringIter (a0 ++ a1) (ps + (Utf8.decode (a0 ++ a1) ps).2))) := ⟨Lib.iterAt_heap _ _ _ _ _ HI.out⟩
         have HB2 : Aside0 (Below w.heap.size w (wr.iterAt wc.heap.size (a0 ++ a1) (ps + (Utf8.decode (a0 ++ a1) ps).2))) := ⟨Lib.below_iterAt HB.out HSz.out _ _⟩
         clear HB HI
         have HB := HB2
         clear HB2
         obtain ⟨W2, hW2⟩ : ∃ W2, wr.iterAt wc.heap.size (a0 ++ a1) (ps + (Utf8.decode (a0 ++ a1) ps).2) = W2 := ⟨_, rfl⟩
         rw [hW2] at hnx HI2 HB
         clear hW2
         have hc2 : ((ps : Int) + ((Utf8.decode (a0 ++ a1) ps).2 : Int)) = ((ps + (Utf8.decode (a0 ++ a1) ps).2 : Nat) : Int) := by omega
         rw [hc2] at H
         clear hc2
         obtain ⟨p2, hp2⟩ : ∃ p2, ps + (Utf8.decode (a0 ++ a1) ps).2 = p2 := ⟨_, rfl⟩
         rw [hp2] at H HI2
         clear hp2
         obtain ⟨d, hd⟩ : ∃ d : Nat, (Utf8.decode (a0 ++ a1) ps).1 = d := ⟨_, rfl⟩
         rw [hd] at hnx
         clear hd hps
         clear c14
         have H' := Aside0.mk H
         clear H
         go_wp2
         go_roundg k2
         case measure => have := HJ4.out; have := HK2.out; omega
         case rel => exact ⟨(wrap64 (x5_2 + 1)), p2, (by first | rfl | (simp; done) | (simp [*]; done) | (simp [wrap64]; done)), H', ⟨by have := HJ4.out; have := HK2.out; omega⟩, HI2, ⟨bl⟩⟩
        ·rw [if_neg c14] at H
         have hnx : ∀ ty, (Instr.next (.pointer (some ⟨wc.heap.size, 0, none⟩)) true ty).run Tryd.prog wr = _ := fun ty => Lib.run_next_end_at wr _ (a0 ++ a1) ps ty HI.out (by omega)
         clear HI
         clear c14
         have H' := Aside0.mk H
         clear H
         go_wp2
         go_loopg [6] k2 (fun kq v6 w' => ∃ (x6_3 : Int), v6 = .int .i64 x6_3 ∧ Aside0 (targumlaw1_UtfSizes.l1 kq a0 a1 x5_2 x6_3 = some r) ∧ Aside0 (kq ≤ k2) ∧ Aside0 (Below w.heap.size w w'))
         case atStart => exact ⟨(1), (by first | rfl | (simp; done) | (simp [*]; done) | (simp [wrap64]; done)), H', ⟨Nat.le_refl _⟩, ⟨bl⟩⟩
         case round =>
          clear H'
          try clear c1; try clear p2; try clear c4; try clear c5; try clear p6; try clear c7; try clear c7b0; try clear c7b1; try clear c8; try clear c8b0; try clear c8b1; try clear c10; try clear c12; try clear c13; try clear c13b0; try clear c13b1; try clear c13b2; try clear c14; try clear c14b0; try clear p2
          obtain ⟨x6_3, rfl, HA, HK3, HB⟩ := hrel
          cases gk with
          | zero => exact absurd HA.out (by simp [targumlaw1_UtfSizes.l1])
          | succ k3 =>
           have H := HA.out
           clear HA
           simp only [targumlaw1_UtfSizes.l1] at H
           by_cases c15 : x6_3 ≤ 5
           ·rw [if_pos c15] at H
            have c15b0 : decide (x6_3 ≤ 5) = true := decide_eq_true c15
            clear c15
            by_cases c16 : a0.size + a1.size ≤ 9223372036854775807
            ·rw [if_pos c16] at H
             have c16b0 := eq_true c16
             have c16b1 : decide (a0.size + a1.size ≤ 9223372036854775807) = true := decide_eq_true c16
             try have c16b2 : (9223372036854775807 < a0.size + a1.size) = False := eq_false (Nat.not_lt.2 c16)
             replace H := Option.bind_eq_some_iff.mp H
             obtain ⟨t203, A170, H⟩ := H
             replace H : ((utf_Size.f k3 x6_3 a0).bind fun t204 => ((utf_Size.f k3 x6_3 a1).bind fun t205 => (if t203 = (wrap64 (t204 + t205)) then ((utf_Encode.f k3 x6_3 a0).bind fun t206 => ((utf_Size.f k3 x6_3 a0).bind fun t209 => (if (t206.length : Int) = t209 then (targumlaw1_UtfSizes.l1 k3 a0 a1 x5_2 (wrap64 (x6_3 + 1))) else (some false)))) else (some false)))) = some r := H
             have A17 := Aside0.mk A170
             clear A170
             replace H := Option.bind_eq_some_iff.mp H
             obtain ⟨t204, A180, H⟩ := H
             replace H : ((utf_Size.f k3 x6_3 a1).bind fun t205 => (if t203 = (wrap64 (t204 + t205)) then ((utf_Encode.f k3 x6_3 a0).bind fun t206 => ((utf_Size.f k3 x6_3 a0).bind fun t209 => (if (t206.length : Int) = t209 then (targumlaw1_UtfSizes.l1 k3 a0 a1 x5_2 (wrap64 (x6_3 + 1))) else (some false)))) else (some false))) = some r := H
             have A18 := Aside0.mk A180
             clear A180
             replace H := Option.bind_eq_some_iff.mp H
             obtain ⟨t205, A190, H⟩ := H
             replace H : (if t203 = (wrap64 (t204 + t205)) then ((utf_Encode.f k3 x6_3 a0).bind fun t206 => ((utf_Size.f k3 x6_3 a0).bind fun t209 => (if (t206.length : Int) = t209 then (targumlaw1_UtfSizes.l1 k3 a0 a1 x5_2 (wrap64 (x6_3 + 1))) else (some false)))) else (some false)) = some r := H
             have A19 := Aside0.mk A190
             clear A190
             by_cases c20 : t203 = (wrap64 (t204 + t205))
             ·rw [if_pos c20] at H
              have c20b0 : (t203 == (wrap64 (t204 + t205))) = true := beq_iff_eq.mpr c20
              have c20b1 : (t203 != (wrap64 (t204 + t205))) = false := bne_eq_false_iff_eq.mpr c20
              clear c20
              replace H := Option.bind_eq_some_iff.mp H
              obtain ⟨t206, A210, H⟩ := H
              replace H : ((utf_Size.f k3 x6_3 a0).bind fun t209 => (if (t206.length : Int) = t209 then (targumlaw1_UtfSizes.l1 k3 a0 a1 x5_2 (wrap64 (x6_3 + 1))) else (some false))) = some r := H
              have A21 := Aside0.mk A210
              clear A210
              replace H := Option.bind_eq_some_iff.mp H
              obtain ⟨t209, A220, H⟩ := H
              replace H : (if (t206.length : Int) = t209 then (targumlaw1_UtfSizes.l1 k3 a0 a1 x5_2 (wrap64 (x6_3 + 1))) else (some false)) = some r := H
              have A22 := Aside0.mk A220
              clear A220
              by_cases c23 : (t206.length : Int) = t209
              ·rw [if_pos c23] at H
               have c23b0 : ((t206.length : Int) == t209) = true := beq_iff_eq.mpr c23
               have c23b1 : ((t206.length : Int) != t209) = false := bne_eq_false_iff_eq.mpr c23
               clear c23
               have H' := Aside0.mk H
               clear H
               go_wp2_with (first | ((with_reducible refine gate_callee (f := 18) rfl ?_); refine goesL_ (some 44) rfl rfl Tryd.func18 (by kernel_rfl) rfl #[.int .i64 x6_3, .string (a0 ++ a1)] rfl (by (try simp only [List.map_toArray, List.map_cons, List.map_nil]); first | done | rfl | (simp only [List.length_drop, List.length_take]; rfl)) ?_; (with_reducible refine (utf_Size.calls k3 x6_3 (a0 ++ a1) t203 _ ?side1 A17.out).mono ?_); (case side1 => exact Utf8Tabs_below HG.out bl); rintro e w24 ⟨rfl, hb⟩; refine ⟨_, rfl, ?_⟩; have n0_ := Aside0.mk (below_step bl hb); clear HB; have HB := n0_; clear n0_; (try clear hb); (try clear hb2); (try clear hk); (try clear hi)) | ((with_reducible refine gate_callee (f := 18) rfl ?_); refine goesL_ (some 47) rfl rfl Tryd.func18 (by kernel_rfl) rfl #[.int .i64 x6_3, .string a0] rfl (by (try simp only [List.map_toArray, List.map_cons, List.map_nil]); first | done | rfl | (simp only [List.length_drop, List.length_take]; rfl)) ?_; (with_reducible refine (utf_Size.calls k3 x6_3 a0 t204 _ ?side1 A18.out).mono ?_); (case side1 => exact Utf8Tabs_below HG.out bl); rintro e w25 ⟨rfl, hb⟩; refine ⟨_, rfl, ?_⟩; have n0_ := Aside0.mk (below_step bl hb); clear HB; have HB := n0_; clear n0_; (try clear hb); (try clear hb2); (try clear hk); (try clear hi); clear A18) | ((with_reducible refine gate_callee (f := 18) rfl ?_); refine goesL_ (some 50) rfl rfl Tryd.func18 (by kernel_rfl) rfl #[.int .i64 x6_3, .string a1] rfl (by (try simp only [List.map_toArray, List.map_cons, List.map_nil]); first | done | rfl | (simp only [List.length_drop, List.length_take]; rfl)) ?_; (with_reducible refine (utf_Size.calls k3 x6_3 a1 t205 _ ?side1 A19.out).mono ?_); (case side1 => exact Utf8Tabs_below HG.out bl); rintro e w26 ⟨rfl, hb⟩; refine ⟨_, rfl, ?_⟩; have n0_ := Aside0.mk (below_step bl hb); clear HB; have HB := n0_; clear n0_; (try clear hb); (try clear hb2); (try clear hk); (try clear hi)) | (go_at_call 16; (try (rename_i hK_; simp only [List.append] at hK_)); (with_reducible refine (utf_Encode.calls k3 x6_3 a0 t206 _ ?side1 A21.out).mono ?_); (case side1 => exact Utf8Tabs_below HG.out bl); rintro e w27 ⟨v207, rfl, ho0, hb⟩; have n0_ := Aside0.mk (Kd.R_lower ho0 (below_size bl)); have n1_ := Aside0.mk (below_step bl hb); clear HB; have HO208 := n0_; have HB := n1_; clear n0_ n1_; (try clear hb); (try clear hb2); (try clear hk); (try clear hi); (try clear ho0); obtain ⟨Ao28, co28, eo28⟩ := Kd.R_slice HO208.out; subst eo28) | (go_at_call 18; (try (rename_i hK_; simp only [List.append] at hK_)); (with_reducible refine (utf_Size.calls k3 x6_3 a0 t209 _ ?side1 A22.out).mono ?_); (case side1 => exact Utf8Tabs_below HG.out bl); rintro e w29 ⟨rfl, hb⟩; have n0_ := Aside0.mk (Kd.R_below (by (with_reducible repeat (first | apply Kd.R_alloc | apply Kd.R_drewN | apply Kd.R_drew)); exact HO208.out) hb); have n1_ := Aside0.mk (below_step bl hb); clear HO208; clear HB; have HO208 := n0_; have HB := n1_; clear n0_ n1_; (try clear hb); (try clear hb2); (try clear hk); (try clear hi); clear A22))
               go_roundg k3
               case measure => have := HJ4.out; have := HK2.out; have := HK3.out; omega
               case rel => exact ⟨(wrap64 (x6_3 + 1)), (by first | rfl | (simp; done) | (simp [*]; done) | (simp [wrap64]; done)), H', ⟨by have := HJ4.out; have := HK2.out; have := HK3.out; omega⟩, ⟨bl⟩⟩
              ·rw [if_neg c23] at H
               have c23b0 : ((t206.length : Int) == t209) = false := beq_eq_false_iff_ne.mpr c23
               have c23b1 : ((t206.length : Int) != t209) = true := bne_iff_ne.mpr c23
               obtain rfl := Option.some.inj H
               go_wp2_with (first | ((with_reducible refine gate_callee (f := 18) rfl ?_); refine goesL_ (some 44) rfl rfl Tryd.func18 (by kernel_rfl) rfl #[.int .i64 x6_3, .string (a0 ++ a1)] rfl (by (try simp only [List.map_toArray, List.map_cons, List.map_nil]); first | done | rfl | (simp only [List.length_drop, List.length_take]; rfl)) ?_; (with_reducible refine (utf_Size.calls k3 x6_3 (a0 ++ a1) t203 _ ?side1 A17.out).mono ?_); (case side1 => exact Utf8Tabs_below HG.out bl); rintro e w30 ⟨rfl, hb⟩; refine ⟨_, rfl, ?_⟩; have n0_ := Aside0.mk (below_step bl hb); clear HB; have HB := n0_; clear n0_; (try clear hb); (try clear hb2); (try clear hk); (try clear hi)) | ((with_reducible refine gate_callee (f := 18) rfl ?_); refine goesL_ (some 47) rfl rfl Tryd.func18 (by kernel_rfl) rfl #[.int .i64 x6_3, .string a0] rfl (by (try simp only [List.map_toArray, List.map_cons, List.map_nil]); first | done | rfl | (simp only [List.length_drop, List.length_take]; rfl)) ?_; (with_reducible refine (utf_Size.calls k3 x6_3 a0 t204 _ ?side1 A18.out).mono ?_); (case side1 => exact Utf8Tabs_below HG.out bl); rintro e w31 ⟨rfl, hb⟩; refine ⟨_, rfl, ?_⟩; have n0_ := Aside0.mk (below_step bl hb); clear HB; have HB := n0_; clear n0_; (try clear hb); (try clear hb2); (try clear hk); (try clear hi); clear A18) | ((with_reducible refine gate_callee (f := 18) rfl ?_); refine goesL_ (some 50) rfl rfl Tryd.func18 (by kernel_rfl) rfl #[.int .i64 x6_3, .string a1] rfl (by (try simp only [List.map_toArray, List.map_cons, List.map_nil]); first | done | rfl | (simp only [List.length_drop, List.length_take]; rfl)) ?_; (with_reducible refine (utf_Size.calls k3 x6_3 a1 t205 _ ?side1 A19.out).mono ?_); (case side1 => exact Utf8Tabs_below HG.out bl); rintro e w32 ⟨rfl, hb⟩; refine ⟨_, rfl, ?_⟩; have n0_ := Aside0.mk (below_step bl hb); clear HB; have HB := n0_; clear n0_; (try clear hb); (try clear hb2); (try clear hk); (try clear hi)) | (go_at_call 16; (try (rename_i hK_; simp only [List.append] at hK_)); (with_reducible refine (utf_Encode.calls k3 x6_3 a0 t206 _ ?side1 A21.out).mono ?_); (case side1 => exact Utf8Tabs_below HG.out bl); rintro e w33 ⟨v207, rfl, ho0, hb⟩; have n0_ := Aside0.mk (Kd.R_lower ho0 (below_size bl)); have n1_ := Aside0.mk (below_step bl hb); clear HB; have HO208 := n0_; have HB := n1_; clear n0_ n1_; (try clear hb); (try clear hb2); (try clear hk); (try clear hi); (try clear ho0); obtain ⟨Ao34, co34, eo34⟩ := Kd.R_slice HO208.out; subst eo34) | (go_at_call 18; (try (rename_i hK_; simp only [List.append] at hK_)); (with_reducible refine (utf_Size.calls k3 x6_3 a0 t209 _ ?side1 A22.out).mono ?_); (case side1 => exact Utf8Tabs_below HG.out bl); rintro e w35 ⟨rfl, hb⟩; have n0_ := Aside0.mk (Kd.R_below (by (with_reducible repeat (first | apply Kd.R_alloc | apply Kd.R_drewN | apply Kd.R_drew)); exact HO208.out) hb); have n1_ := Aside0.mk (below_step bl hb); clear HO208; clear HB; have HO208 := n0_; have HB := n1_; clear n0_ n1_; (try clear hb); (try clear hb2); (try clear hk); (try clear hi); clear A22))
               go_ret
               exact ⟨by first | rfl | (rw [show wrap64 ((a0.size : Int) + (a1.size : Int)) = (a0.size : Int) + (a1.size : Int) from by unfold wrap64; omega]; try rfl; done) | (simp [errW_none, errW_some] <;> rfl) | (simp [*, errW_none, errW_some] <;> rfl), bl⟩
             ·rw [if_neg c20] at H
              have c20b0 : (t203 == (wrap64 (t204 + t205))) = false := beq_eq_false_iff_ne.mpr c20
              have c20b1 : (t203 != (wrap64 (t204 + t205))) = true := bne_iff_ne.mpr c20
              obtain rfl := Option.some.inj H
              go_wp2_with (first | ((with_reducible refine gate_callee (f := 18) rfl ?_); refine goesL_ (some 44) rfl rfl Tryd.func18 (by kernel_rfl) rfl #[.int .i64 x6_3, .string (a0 ++ a1)] rfl (by (try simp only [List.map_toArray, List.map_cons, List.map_nil]); first | done | rfl | (simp only [List.length_drop, List.length_take]; rfl)) ?_; (with_reducible refine (utf_Size.calls k3 x6_3 (a0 ++ a1) t203 _ ?side1 A17.out).mono ?_); (case side1 => exact Utf8Tabs_below HG.out bl); rintro e w36 ⟨rfl, hb⟩; refine ⟨_, rfl, ?_⟩; have n0_ := Aside0.mk (below_step bl hb); clear HB; have HB := n0_; clear n0_; (try clear hb); (try clear hb2); (try clear hk); (try clear hi)) | ((with_reducible refine gate_callee (f := 18) rfl ?_); refine goesL_ (some 47) rfl rfl Tryd.func18 (by kernel_rfl) rfl #[.int .i64 x6_3, .string a0] rfl (by (try simp only [List.map_toArray, List.map_cons, List.map_nil]); first | done | rfl | (simp only [List.length_drop, List.length_take]; rfl)) ?_; (with_reducible refine (utf_Size.calls k3 x6_3 a0 t204 _ ?side1 A18.out).mono ?_); (case side1 => exact Utf8Tabs_below HG.out bl); rintro e w37 ⟨rfl, hb⟩; refine ⟨_, rfl, ?_⟩; have n0_ := Aside0.mk (below_step bl hb); clear HB; have HB := n0_; clear n0_; (try clear hb); (try clear hb2); (try clear hk); (try clear hi)) | ((with_reducible refine gate_callee (f := 18) rfl ?_); refine goesL_ (some 50) rfl rfl Tryd.func18 (by kernel_rfl) rfl #[.int .i64 x6_3, .string a1] rfl (by (try simp only [List.map_toArray, List.map_cons, List.map_nil]); first | done | rfl | (simp only [List.length_drop, List.length_take]; rfl)) ?_; (with_reducible refine (utf_Size.calls k3 x6_3 a1 t205 _ ?side1 A19.out).mono ?_); (case side1 => exact Utf8Tabs_below HG.out bl); rintro e w38 ⟨rfl, hb⟩; refine ⟨_, rfl, ?_⟩; have n0_ := Aside0.mk (below_step bl hb); clear HB; have HB := n0_; clear n0_; (try clear hb); (try clear hb2); (try clear hk); (try clear hi)))
              go_ret
              exact ⟨by first | rfl | (rw [show wrap64 ((a0.size : Int) + (a1.size : Int)) = (a0.size : Int) + (a1.size : Int) from by unfold wrap64; omega]; try rfl; done) | (simp [errW_none, errW_some] <;> rfl) | (simp [*, errW_none, errW_some] <;> rfl), bl⟩
            ·rw [if_neg c16] at H
             exact absurd H (by simp)
           ·rw [if_neg c15] at H
            have c15b0 : decide (x6_3 ≤ 5) = false := decide_eq_false c15
            clear c15
            by_cases c39 : a0.size + a1.size ≤ 9223372036854775807
            ·rw [if_pos c39] at H
             have c39b0 := eq_true c39
             have c39b1 : decide (a0.size + a1.size ≤ 9223372036854775807) = true := decide_eq_true c39
             try have c39b2 : (9223372036854775807 < a0.size + a1.size) = False := eq_false (Nat.not_lt.2 c39)
             replace H := Option.bind_eq_some_iff.mp H
             obtain ⟨t210, A400, H⟩ := H
             replace H : ((utf_Size.f k3 4 (a0 ++ a1)).bind fun t211 => (if t211 = (wrap64 (4 * x5_2)) then ((utf_Size.f k3 5 (a0 ++ a1)).bind fun t212 => (if t212 = (wrap64 (4 * x5_2)) then (if t210 ≥ (wrap64 (2 * x5_2)) then (if t210 ≤ (wrap64 (4 * x5_2)) then ((utf_Size.f k3 3 (a0 ++ a1)).bind fun t213 => (if t213 = t210 then ((utf_Size.f k3 1 (a0 ++ a1)).bind fun t214 => (some (t214 == (wrap64 ((a0.size : Int) + (a1.size : Int)))))) else (some false))) else (some false)) else (some false)) else (some false))) else (some false))) = some r := H
             have A40 := Aside0.mk A400
             clear A400
             replace H := Option.bind_eq_some_iff.mp H
             obtain ⟨t211, A410, H⟩ := H
             replace H : (if t211 = (wrap64 (4 * x5_2)) then ((utf_Size.f k3 5 (a0 ++ a1)).bind fun t212 => (if t212 = (wrap64 (4 * x5_2)) then (if t210 ≥ (wrap64 (2 * x5_2)) then (if t210 ≤ (wrap64 (4 * x5_2)) then ((utf_Size.f k3 3 (a0 ++ a1)).bind fun t213 => (if t213 = t210 then ((utf_Size.f k3 1 (a0 ++ a1)).bind fun t214 => (some (t214 == (wrap64 ((a0.size : Int) + (a1.size : Int)))))) else (some false))) else (some false)) else (some false)) else (some false))) else (some false)) = some r := H
             have A41 := Aside0.mk A410
             clear A410
             by_cases c42 : t211 = (wrap64 (4 * x5_2))
             ·rw [if_pos c42] at H
              have c42b0 : (t211 == (wrap64 (4 * x5_2))) = true := beq_iff_eq.mpr c42
              have c42b1 : (t211 != (wrap64 (4 * x5_2))) = false := bne_eq_false_iff_eq.mpr c42
              clear c42
              replace H := Option.bind_eq_some_iff.mp H
              obtain ⟨t212, A430, H⟩ := H
              replace H : (if t212 = (wrap64 (4 * x5_2)) then (if t210 ≥ (wrap64 (2 * x5_2)) then (if t210 ≤ (wrap64 (4 * x5_2)) then ((utf_Size.f k3 3 (a0 ++ a1)).bind fun t213 => (if t213 = t210 then ((utf_Size.f k3 1 (a0 ++ a1)).bind fun t214 => (some (t214 == (wrap64 ((a0.size : Int) + (a1.size : Int)))))) else (some false))) else (some false)) else (some false)) else (some false)) = some r := H
              have A43 := Aside0.mk A430
              clear A430
              by_cases c44 : t212 = (wrap64 (4 * x5_2))
              ·rw [if_pos c44] at H
               have c44b0 : (t212 == (wrap64 (4 * x5_2))) = true := beq_iff_eq.mpr c44
               have c44b1 : (t212 != (wrap64 (4 * x5_2))) = false := bne_eq_false_iff_eq.mpr c44
               clear c44
               by_cases c45 : t210 ≥ (wrap64 (2 * x5_2))
               ·rw [if_pos c45] at H
                have c45b0 : decide ((wrap64 (2 * x5_2)) ≤ t210) = true := decide_eq_true c45
                clear c45
                by_cases c46 : t210 ≤ (wrap64 (4 * x5_2))
                ·rw [if_pos c46] at H
                 have c46b0 : decide (t210 ≤ (wrap64 (4 * x5_2))) = true := decide_eq_true c46
                 clear c46
                 replace H := Option.bind_eq_some_iff.mp H
                 obtain ⟨t213, A470, H⟩ := H
                 replace H : (if t213 = t210 then ((utf_Size.f k3 1 (a0 ++ a1)).bind fun t214 => (some (t214 == (wrap64 ((a0.size : Int) + (a1.size : Int)))))) else (some false)) = some r := H
                 have A47 := Aside0.mk A470
                 clear A470
                 refine Classical.byCases (p := (t213 = t210)) (fun c48 => ?x1) (fun c48 => ?y1)
                 case' x1 =>
                  rw [if_pos c48] at H
                  have c48b0 : (t213 == t210) = true := beq_iff_eq.mpr c48
                  have c48b1 : (t213 != t210) = false := bne_eq_false_iff_eq.mpr c48
                  clear c48
                  replace H := Option.bind_eq_some_iff.mp H
                  obtain ⟨t214, A490, H⟩ := H
                  replace H : (some (t214 == (wrap64 ((a0.size : Int) + (a1.size : Int))))) = some r := H
                  have A49 := Aside0.mk A490
                  clear A490
                  obtain rfl := Option.some.inj H
                  skip
                 case' y1 =>
                  rw [if_neg c48] at H
                  have c48b0 : (t213 == t210) = false := beq_eq_false_iff_ne.mpr c48
                  have c48b1 : (t213 != t210) = true := bne_iff_ne.mpr c48
                  obtain rfl := Option.some.inj H
                  skip
                 case x1 | y1 =>
                  as_aux_lemma =>
                   go_wp2_with (first | ((with_reducible refine gate_callee (f := 18) rfl ?_); refine goesL_ (some 66) rfl rfl Tryd.func18 (by kernel_rfl) rfl #[.int .i64 2, .string (a0 ++ a1)] rfl (by (try simp only [List.map_toArray, List.map_cons, List.map_nil]); first | done | rfl | (simp only [List.length_drop, List.length_take]; rfl)) ?_; (with_reducible refine (utf_Size.calls _ _ _ _ _ ?side1 A40.out).mono ?_); (case side1 => exact Utf8Tabs_below HG.out bl); rintro e w50 ⟨rfl, hb⟩; refine ⟨_, rfl, ?_⟩; have n0_ := Aside0.mk (below_step bl hb); clear HB; have HB := n0_; clear n0_; (try clear hb); (try clear hb2); (try clear hk); (try clear hi)) | (go_at_call 18; (try (rename_i hK_; simp only [List.append] at hK_)); (with_reducible refine (utf_Size.calls _ _ _ _ _ ?side1 A41.out).mono ?_); (case side1 => exact Utf8Tabs_below HG.out bl); rintro e w51 ⟨rfl, hb⟩; have n0_ := Aside0.mk (below_step bl hb); clear HB; have HB := n0_; clear n0_; (try clear hb); (try clear hb2); (try clear hk); (try clear hi)) | (go_at_call 18; (try (rename_i hK_; simp only [List.append] at hK_)); (with_reducible refine (utf_Size.calls _ _ _ _ _ ?side1 A43.out).mono ?_); (case side1 => exact Utf8Tabs_below HG.out bl); rintro e w52 ⟨rfl, hb⟩; have n0_ := Aside0.mk (below_step bl hb); clear HB; have HB := n0_; clear n0_; (try clear hb); (try clear hb2); (try clear hk); (try clear hi)) | (go_at_call 18; (try (rename_i hK_; simp only [List.append] at hK_)); (with_reducible refine (utf_Size.calls _ _ _ _ _ ?side1 A47.out).mono ?_); (case side1 => exact Utf8Tabs_below HG.out bl); rintro e w53 ⟨rfl, hb⟩; have n0_ := Aside0.mk (below_step bl hb); clear HB; have HB := n0_; clear n0_; (try clear hb); (try clear hb2); (try clear hk); (try clear hi)) | (go_at_call 18; (try (rename_i hK_; simp only [List.append] at hK_)); (with_reducible refine (utf_Size.calls _ _ _ _ _ ?side1 A49.out).mono ?_); (case side1 => exact Utf8Tabs_below HG.out bl); rintro e w54 ⟨rfl, hb⟩; have n0_ := Aside0.mk (below_step bl hb); clear HB; have HB := n0_; clear n0_; (try clear hb); (try clear hb2); (try clear hk); (try clear hi)))
                   go_ret
                   exact ⟨by first | rfl | (rw [show wrap64 ((a0.size : Int) + (a1.size : Int)) = (a0.size : Int) + (a1.size : Int) from by unfold wrap64; omega]; try rfl; done) | (simp [errW_none, errW_some] <;> rfl) | (simp [*, errW_none, errW_some] <;> rfl), bl⟩
                ·rw [if_neg c46] at H
                 have c46b0 : decide (t210 ≤ (wrap64 (4 * x5_2))) = false := decide_eq_false c46
                 clear c46
                 obtain rfl := Option.some.inj H
                 go_wp2_with (first | ((with_reducible refine gate_callee (f := 18) rfl ?_); refine goesL_ (some 66) rfl rfl Tryd.func18 (by kernel_rfl) rfl #[.int .i64 2, .string (a0 ++ a1)] rfl (by (try simp only [List.map_toArray, List.map_cons, List.map_nil]); first | done | rfl | (simp only [List.length_drop, List.length_take]; rfl)) ?_; (with_reducible refine (utf_Size.calls k3 2 (a0 ++ a1) t210 _ ?side1 A40.out).mono ?_); (case side1 => exact Utf8Tabs_below HG.out bl); rintro e w59 ⟨rfl, hb⟩; refine ⟨_, rfl, ?_⟩; have n0_ := Aside0.mk (below_step bl hb); clear HB; have HB := n0_; clear n0_; (try clear hb); (try clear hb2); (try clear hk); (try clear hi)) | (go_at_call 18; (try (rename_i hK_; simp only [List.append] at hK_)); (with_reducible refine (utf_Size.calls k3 4 (a0 ++ a1) t211 _ ?side1 A41.out).mono ?_); (case side1 => exact Utf8Tabs_below HG.out bl); rintro e w60 ⟨rfl, hb⟩; have n0_ := Aside0.mk (below_step bl hb); clear HB; have HB := n0_; clear n0_; (try clear hb); (try clear hb2); (try clear hk); (try clear hi)) | (go_at_call 18; (try (rename_i hK_; simp only [List.append] at hK_)); (with_reducible refine (utf_Size.calls k3 5 (a0 ++ a1) t212 _ ?side1 A43.out).mono ?_); (case side1 => exact Utf8Tabs_below HG.out bl); rintro e w61 ⟨rfl, hb⟩; have n0_ := Aside0.mk (below_step bl hb); clear HB; have HB := n0_; clear n0_; (try clear hb); (try clear hb2); (try clear hk); (try clear hi)))
                 go_ret
                 exact ⟨by first | rfl | (rw [show wrap64 ((a0.size : Int) + (a1.size : Int)) = (a0.size : Int) + (a1.size : Int) from by unfold wrap64; omega]; try rfl; done) | (simp [errW_none, errW_some] <;> rfl) | (simp [*, errW_none, errW_some] <;> rfl), bl⟩
               ·rw [if_neg c45] at H
                have c45b0 : decide ((wrap64 (2 * x5_2)) ≤ t210) = false := decide_eq_false c45
                clear c45
                obtain rfl := Option.some.inj H
                go_wp2_with (first | ((with_reducible refine gate_callee (f := 18) rfl ?_); refine goesL_ (some 66) rfl rfl Tryd.func18 (by kernel_rfl) rfl #[.int .i64 2, .string (a0 ++ a1)] rfl (by (try simp only [List.map_toArray, List.map_cons, List.map_nil]); first | done | rfl | (simp only [List.length_drop, List.length_take]; rfl)) ?_; (with_reducible refine (utf_Size.calls k3 2 (a0 ++ a1) t210 _ ?side1 A40.out).mono ?_); (case side1 => exact Utf8Tabs_below HG.out bl); rintro e w62 ⟨rfl, hb⟩; refine ⟨_, rfl, ?_⟩; have n0_ := Aside0.mk (below_step bl hb); clear HB; have HB := n0_; clear n0_; (try clear hb); (try clear hb2); (try clear hk); (try clear hi)) | (go_at_call 18; (try (rename_i hK_; simp only [List.append] at hK_)); (with_reducible refine (utf_Size.calls k3 4 (a0 ++ a1) t211 _ ?side1 A41.out).mono ?_); (case side1 => exact Utf8Tabs_below HG.out bl); rintro e w63 ⟨rfl, hb⟩; have n0_ := Aside0.mk (below_step bl hb); clear HB; have HB := n0_; clear n0_; (try clear hb); (try clear hb2); (try clear hk); (try clear hi)) | (go_at_call 18; (try (rename_i hK_; simp only [List.append] at hK_)); (with_reducible refine (utf_Size.calls k3 5 (a0 ++ a1) t212 _ ?side1 A43.out).mono ?_); (case side1 => exact Utf8Tabs_below HG.out bl); rintro e w64 ⟨rfl, hb⟩; have n0_ := Aside0.mk (below_step bl hb); clear HB; have HB := n0_; clear n0_; (try clear hb); (try clear hb2); (try clear hk); (try clear hi)))
                go_ret
                exact ⟨by first | rfl | (rw [show wrap64 ((a0.size : Int) + (a1.size : Int)) = (a0.size : Int) + (a1.size : Int) from by unfold wrap64; omega]; try rfl; done) | (simp [errW_none, errW_some] <;> rfl) | (simp [*, errW_none, errW_some] <;> rfl), bl⟩
              ·rw [if_neg c44] at H
               have c44b0 : (t212 == (wrap64 (4 * x5_2))) = false := beq_eq_false_iff_ne.mpr c44
               have c44b1 : (t212 != (wrap64 (4 * x5_2))) = true := bne_iff_ne.mpr c44
               obtain rfl := Option.some.inj H
               go_wp2_with (first | ((with_reducible refine gate_callee (f := 18) rfl ?_); refine goesL_ (some 66) rfl rfl Tryd.func18 (by kernel_rfl) rfl #[.int .i64 2, .string (a0 ++ a1)] rfl (by (try simp only [List.map_toArray, List.map_cons, List.map_nil]); first | done | rfl | (simp only [List.length_drop, List.length_take]; rfl)) ?_; (with_reducible refine (utf_Size.calls k3 2 (a0 ++ a1) t210 _ ?side1 A40.out).mono ?_); (case side1 => exact Utf8Tabs_below HG.out bl); rintro e w65 ⟨rfl, hb⟩; refine ⟨_, rfl, ?_⟩; have n0_ := Aside0.mk (below_step bl hb); clear HB; have HB := n0_; clear n0_; (try clear hb); (try clear hb2); (try clear hk); (try clear hi)) | (go_at_call 18; (try (rename_i hK_; simp only [List.append] at hK_)); (with_reducible refine (utf_Size.calls k3 4 (a0 ++ a1) t211 _ ?side1 A41.out).mono ?_); (case side1 => exact Utf8Tabs_below HG.out bl); rintro e w66 ⟨rfl, hb⟩; have n0_ := Aside0.mk (below_step bl hb); clear HB; have HB := n0_; clear n0_; (try clear hb); (try clear hb2); (try clear hk); (try clear hi)) | (go_at_call 18; (try (rename_i hK_; simp only [List.append] at hK_)); (with_reducible refine (utf_Size.calls k3 5 (a0 ++ a1) t212 _ ?side1 A43.out).mono ?_); (case side1 => exact Utf8Tabs_below HG.out bl); rintro e w67 ⟨rfl, hb⟩; have n0_ := Aside0.mk (below_step bl hb); clear HB; have HB := n0_; clear n0_; (try clear hb); (try clear hb2); (try clear hk); (try clear hi)))
               go_ret
               exact ⟨by first | rfl | (rw [show wrap64 ((a0.size : Int) + (a1.size : Int)) = (a0.size : Int) + (a1.size : Int) from by unfold wrap64; omega]; try rfl; done) | (simp [errW_none, errW_some] <;> rfl) | (simp [*, errW_none, errW_some] <;> rfl), bl⟩
             ·rw [if_neg c42] at H
              have c42b0 : (t211 == (wrap64 (4 * x5_2))) = false := beq_eq_false_iff_ne.mpr c42
              have c42b1 : (t211 != (wrap64 (4 * x5_2))) = true := bne_iff_ne.mpr c42
              obtain rfl := Option.some.inj H
              go_wp2_with (first | ((with_reducible refine gate_callee (f := 18) rfl ?_); refine goesL_ (some 66) rfl rfl Tryd.func18 (by kernel_rfl) rfl #[.int .i64 2, .string (a0 ++ a1)] rfl (by (try simp only [List.map_toArray, List.map_cons, List.map_nil]); first | done | rfl | (simp only [List.length_drop, List.length_take]; rfl)) ?_; (with_reducible refine (utf_Size.calls k3 2 (a0 ++ a1) t210 _ ?side1 A40.out).mono ?_); (case side1 => exact Utf8Tabs_below HG.out bl); rintro e w68 ⟨rfl, hb⟩; refine ⟨_, rfl, ?_⟩; have n0_ := Aside0.mk (below_step bl hb); clear HB; have HB := n0_; clear n0_; (try clear hb); (try clear hb2); (try clear hk); (try clear hi)) | (go_at_call 18; (try (rename_i hK_; simp only [List.append] at hK_)); (with_reducible refine (utf_Size.calls k3 4 (a0 ++ a1) t211 _ ?side1 A41.out).mono ?_); (case side1 => exact Utf8Tabs_below HG.out bl); rintro e w69 ⟨rfl, hb⟩; have n0_ := Aside0.mk (below_step bl hb); clear HB; have HB := n0_; clear n0_; (try clear hb); (try clear hb2); (try clear hk); (try clear hi)))
              go_ret
              exact ⟨by first | rfl | (rw [show wrap64 ((a0.size : Int) + (a1.size : Int)) = (a0.size : Int) + (a1.size : Int) from by unfold wrap64; omega]; try rfl; done) | (simp [errW_none, errW_some] <;> rfl) | (simp [*, errW_none, errW_some] <;> rfl), bl⟩
            ·rw [if_neg c39] at H
             exact absurd H (by simp)
     ·rw [if_neg c13] at H
      exact absurd H (by simp)
 ·replace c4 := Bool.eq_false_iff.mpr c4
  subst c4
  have H1 : (some false) = some r := by rw [if_neg (show ¬ (false = true) by decide)] at H; exact H
  clear H
  have H := H1
  clear H1
  obtain rfl := Option.some.inj H
  go_enter Tryd.func5, Tryd.ntmps5
  go_wp2_with (first | ((with_reducible refine gate_callee (f := 10) rfl ?_); refine goesL_ (some 8) rfl rfl Tryd.func10 (by kernel_rfl) rfl #[] rfl (by (try simp only [List.map_toArray, List.map_cons, List.map_nil]); first | done | rfl | (simp only [List.length_drop, List.length_take]; rfl)) ?_; (with_reducible refine (targumlaw1_known.calls k  false _ ?side1 A3.out).mono ?_); (case side1 => exact Utf8Tabs_below HG.out bl); rintro e w70 ⟨rfl, hb⟩; refine ⟨_, rfl, ?_⟩; have n0_ := Aside0.mk (below_step bl hb); clear HB; have HB := n0_; clear n0_; (try clear hb); (try clear hb2); (try clear hk); (try clear hi)))
  go_ret
  exact ⟨by first | rfl | (rw [show wrap64 ((a0.size : Int) + (a1.size : Int)) = (a0.size : Int) + (a1.size : Int) from by unfold wrap64; omega]; try rfl; done) | (simp [errW_none, errW_some] <;> rfl) | (simp [*, errW_none, errW_some] <;> rfl), bl⟩

/-- THE ONE PURE STATEMENT of targumlaw1_UtfSizes: yours. -/
def targumlaw1_UtfSizes.Pure : Prop := ∀ (a0 : ByteArray) (a1 : ByteArray), a0.size ≤ 140737488351232 → a1.size ≤ 140737488351232 → ∃ k, targumlaw1_UtfSizes.f k a0 a1 = some true
theorem targumlaw1_UtfSizes.walk (P : targumlaw1_UtfSizes.Pure) (a0 : ByteArray) (a1 : ByteArray) (w : World) (w0 : a0.size ≤ 140737488351232) (w1 : a1.size ≤ 140737488351232) (hG : Lib.Utf8Tabs 0 1 w) :
  Calls Tryd.prog 5 #[.string a0, .string a1] w fun e w' => e = .returned (.bool true) ∧ Below w.heap.size w w' := by
 obtain ⟨k, h⟩ := P a0 a1 w0 w1
 refine (targumlaw1_UtfSizes.calls k a0 a1 true w hG h).mono ?_
 rintro e w' ⟨rfl, hd⟩
 exact ⟨rfl, hd⟩

end Go.Proofs.YtmpdggphhhljhaaDoor.PZ
