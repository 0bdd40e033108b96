/- Written by this session's own program (xprint, made over the kit's print): Lean functions with the same answers as the Go functions, and the proofs of that. Not trusted: Lean checks it. -/
import Derived.Test.YtkijneohhilboaaGreatDoorPTx0
import Derived.Test.YtkijneohhilboaaGreatDoorPTx9
import Derived.Test.YtkijneohhilboaaGreatDoorPTx10
import Derived.Test.YtkijneohhilboaaGreatDoorXW
import Derived.Test.YtkijneohhilboaaGreatDoorXZ
namespace Go.Proofs.YtkijneohhilboaaGreatDoor.PT
open Go.Proofs.YtkijneohhilboaaGreatDoor.XZ
open Go.Proofs.YtkijneohhilboaaGreatDoor.XW Go.RowKit Go.Proofs.YtkijneohhilboaaGreatDoorW.PrintWords Go.Proofs.YtkijneohhilboaaGreatDoorW.PrintLast Go.Proofs.YtkijneohhilboaaGreatDoorW.PrintMore
attribute [local go_sem] max2_int min2_int max_two min_two max_three min_three max_four min_four   -- for this text's walks alone
set_option linter.unusedVariables false
set_option linter.unusedSimpArgs false

/-! ### targumref4_Add: function 30 -/
mutual
def targumref4_Add.j0 : Nat → ByteArray → Int → Bool → Option (ByteArray)
 | 0, _, _, _ => none
 | k + 1, x0, x1, x18 => if x18 = true then (some (⟨#[]⟩ : ByteArray)) else (if 0 < (x0.size : Int) then (if (bt x0 0) = 45 then (if 1 ≤ (x0.size : Int) then (targumref4_Add.j1 k (x0.extract 1 x0.size) x1 ((bt x0 0) == 45) (decide (x1 < 0))) else (none)) else (targumref4_Add.j1 k x0 x1 ((bt x0 0) == 45) (decide (x1 < 0)))) else (none))
def targumref4_Add.j1 : Nat → ByteArray → Int → Bool → Bool → Option (ByteArray)
 | 0, _, _, _, _ => none
 | k + 1, x0, x1, x5, x6 => if x6 = true then (targumref4_Add.j2 k x0 (wrap64 (-x1)) x5 x6) else (targumref4_Add.j2 k x0 x1 x5 x6)
def targumref4_Add.j2 : Nat → ByteArray → Int → Bool → Bool → Option (ByteArray)
 | 0, _, _, _, _ => none
 | k + 1, x0, x1, x5, x6 => if (x5 == x6) = true then ((targumref4_mulAdd.f k x0 1 x1).bind fun t247 => ((targumref4_Norm.f k x5 t247).bind fun t248 => (some t248))) else ((targumref4_Text.f k x1).bind fun t249 => ((targumref4_compare.f x0 t249).bind fun t250 => (if t250 < 0 then ((targumref4_less.f k t249 x0).bind fun t251 => ((targumref4_Norm.f k x6 t251).bind fun t252 => (some t252))) else ((targumref4_less.f k x0 t249).bind fun t253 => ((targumref4_Norm.f k x5 t253).bind fun t254 => (some t254))))))
end
def targumref4_Add.f (k : Nat) (a0 : ByteArray) (a1 : Int) : Option (ByteArray) := (targumref4_Good.f k a0).bind fun t246 => (if t246 = true then (if a1 < (-1099511627776) then (targumref4_Add.j0 k a0 a1 true) else (targumref4_Add.j0 k a0 a1 (decide (a1 > 1099511627776)))) else (targumref4_Add.j0 k a0 a1 true))
theorem targumref4_Add.mono_l : ∀ k, (∀ y0 y1 y2, LeO (targumref4_Add.j0 k y0 y1 y2) (targumref4_Add.j0 (k + 1) y0 y1 y2)) ∧ (∀ y0 y1 y2 y3, LeO (targumref4_Add.j1 k y0 y1 y2 y3) (targumref4_Add.j1 (k + 1) y0 y1 y2 y3)) ∧ (∀ y0 y1 y2 y3, LeO (targumref4_Add.j2 k y0 y1 y2 y3) (targumref4_Add.j2 (k + 1) y0 y1 y2 y3))
 | 0 => ⟨fun _ _ _ r h => by simp [targumref4_Add.j0] at h, fun _ _ _ _ r h => by simp [targumref4_Add.j1] at h, fun _ _ _ _ r h => by simp [targumref4_Add.j2] at h⟩
 | k + 1 => by
  obtain ⟨ih0, ih1, ih2⟩ := targumref4_Add.mono_l k
  refine ⟨?_, ?_, ?_⟩
  ·intro y0 y1 y2
   unfold targumref4_Add.j0
   repeat' first | (with_reducible exact ih0 _ _ _) | (with_reducible exact ih1 _ _ _ _) | (with_reducible exact ih2 _ _ _ _) | (with_reducible exact targumref4_Good.mono _ _) | (with_reducible exact targumref4_Norm.mono _ _ _) | (with_reducible exact targumref4_Text.mono _ _) | (with_reducible exact targumref4_less.mono _ _ _) | (with_reducible exact targumref4_mulAdd.mono _ _ _ _) | (with_reducible exact LeO.refl _) | (with_reducible exact LeO.none _) | (with_reducible refine LeO.ite ?_ ?_) | (with_reducible refine LeO.bind ?_ (fun _ => ?_)) | exact ih0 _ _ _ | exact ih1 _ _ _ _ | exact ih2 _ _ _ _ | exact targumref4_Good.mono _ _ | exact targumref4_Norm.mono _ _ _ | exact targumref4_Text.mono _ _ | exact targumref4_less.mono _ _ _ | exact targumref4_mulAdd.mono _ _ _ _ | exact LeO.none _ | refine LeO.ite ?_ ?_ | refine LeO.bind ?_ (fun _ => ?_)
  ·intro y0 y1 y2 y3
   unfold targumref4_Add.j1
   repeat' first | (with_reducible exact ih0 _ _ _) | (with_reducible exact ih1 _ _ _ _) | (with_reducible exact ih2 _ _ _ _) | (with_reducible exact targumref4_Good.mono _ _) | (with_reducible exact targumref4_Norm.mono _ _ _) | (with_reducible exact targumref4_Text.mono _ _) | (with_reducible exact targumref4_less.mono _ _ _) | (with_reducible exact targumref4_mulAdd.mono _ _ _ _) | (with_reducible exact LeO.refl _) | (with_reducible exact LeO.none _) | (with_reducible refine LeO.ite ?_ ?_) | (with_reducible refine LeO.bind ?_ (fun _ => ?_)) | exact ih0 _ _ _ | exact ih1 _ _ _ _ | exact ih2 _ _ _ _ | exact targumref4_Good.mono _ _ | exact targumref4_Norm.mono _ _ _ | exact targumref4_Text.mono _ _ | exact targumref4_less.mono _ _ _ | exact targumref4_mulAdd.mono _ _ _ _ | exact LeO.none _ | refine LeO.ite ?_ ?_ | refine LeO.bind ?_ (fun _ => ?_)
  ·intro y0 y1 y2 y3
   unfold targumref4_Add.j2
   repeat' first | (with_reducible exact ih0 _ _ _) | (with_reducible exact ih1 _ _ _ _) | (with_reducible exact ih2 _ _ _ _) | (with_reducible exact targumref4_Good.mono _ _) | (with_reducible exact targumref4_Norm.mono _ _ _) | (with_reducible exact targumref4_Text.mono _ _) | (with_reducible exact targumref4_less.mono _ _ _) | (with_reducible exact targumref4_mulAdd.mono _ _ _ _) | (with_reducible exact LeO.refl _) | (with_reducible exact LeO.none _) | (with_reducible refine LeO.ite ?_ ?_) | (with_reducible refine LeO.bind ?_ (fun _ => ?_)) | exact ih0 _ _ _ | exact ih1 _ _ _ _ | exact ih2 _ _ _ _ | exact targumref4_Good.mono _ _ | exact targumref4_Norm.mono _ _ _ | exact targumref4_Text.mono _ _ | exact targumref4_less.mono _ _ _ | exact targumref4_mulAdd.mono _ _ _ _ | exact LeO.none _ | refine LeO.ite ?_ ?_ | refine LeO.bind ?_ (fun _ => ?_)
theorem targumref4_Add.mono : ∀ a0 a1 k, LeO (targumref4_Add.f k a0 a1) (targumref4_Add.f (k + 1) a0 a1) := by
 intro a0 a1 k
 obtain ⟨ih0, ih1, ih2⟩ := targumref4_Add.mono_l k
 unfold targumref4_Add.f
 repeat' first | (with_reducible exact ih0 _ _ _) | (with_reducible exact ih1 _ _ _ _) | (with_reducible exact ih2 _ _ _ _) | (with_reducible exact targumref4_Good.mono _ _) | (with_reducible exact targumref4_Norm.mono _ _ _) | (with_reducible exact targumref4_Text.mono _ _) | (with_reducible exact targumref4_less.mono _ _ _) | (with_reducible exact targumref4_mulAdd.mono _ _ _ _) | (with_reducible exact LeO.refl _) | (with_reducible exact LeO.none _) | (with_reducible refine LeO.ite ?_ ?_) | (with_reducible refine LeO.bind ?_ (fun _ => ?_)) | exact ih0 _ _ _ | exact ih1 _ _ _ _ | exact ih2 _ _ _ _ | exact targumref4_Good.mono _ _ | exact targumref4_Norm.mono _ _ _ | exact targumref4_Text.mono _ _ | exact targumref4_less.mono _ _ _ | exact targumref4_mulAdd.mono _ _ _ _ | exact LeO.none _ | refine LeO.ite ?_ ?_ | refine LeO.bind ?_ (fun _ => ?_)
set_option maxHeartbeats 8000000 in
set_option maxRecDepth 100000 in
theorem targumref4_Add.calls (k : Nat) (a0 : ByteArray) (a1 : Int) (r : ByteArray) (w : World) (h : targumref4_Add.f k a0 a1 = some r) :
  Calls Tryz.prog 30 #[.string a0, .int .i64 a1] w fun e w' => e = .returned (.string r) ∧ Below w.heap.size w w' := by
 have HB := AM (Below.refl w.heap.size w)
 have H : ((targumref4_Good.f k a0).bind fun t246 => (if t246 = true then (if a1 < (-1099511627776) then (targumref4_Add.j0 k a0 a1 true) else (targumref4_Add.j0 k a0 a1 (decide (a1 > 1099511627776)))) else (targumref4_Add.j0 k a0 a1 true))) = some r := h
 clear h
 have HC3 := AM H
 clear H
 go_enter Tryz.func30, Tryz.ntmps30
 go_upto_region 1 with (fail)
 go_cut [18] (fun v18 wc => ∃ (kq : Nat) (x18_2 : Bool), v18 = .bool x18_2 ∧ Aside0 (targumref4_Add.j0 kq a0 a1 x18_2 = some r) ∧ Aside0 (kq ≤ k) ∧ Aside0 (Below w.heap.size w wc))
 case first =>
  have H := HC3.out
  clear HC3
  replace H := Option.bind_eq_some_iff.mp H
  obtain ⟨t246, A40, H⟩ := H
  replace H : (if t246 = true then (if a1 < (-1099511627776) then (targumref4_Add.j0 k a0 a1 true) else (targumref4_Add.j0 k a0 a1 (decide (a1 > 1099511627776)))) else (targumref4_Add.j0 k a0 a1 true)) = some r := H
  have A4 := AM A40
  clear A40
  by_cases c5 : t246 = true
  ·subst c5
   have H1 : (if a1 < (-1099511627776) then (targumref4_Add.j0 k a0 a1 true) else (targumref4_Add.j0 k a0 a1 (decide (a1 > 1099511627776)))) = some r := by rw [if_pos rfl] at H; exact H
   clear H
   have H := H1
   clear H1
   by_cases c6 : a1 < (-1099511627776)
   ·rw [if_pos c6] at H
    have c6b0 : decide (a1 < (-1099511627776)) = true := decide_eq_true c6; clear c6; (first | rw [c6b0] | (simp only [qi, qj]; rw [c6b0]) | skip); have H' := AM H; clear H; go_wp2_with (first | ((with_reducible refine gate_callee (f := 29) rfl ?_); refine goesL_ (some 9) rfl rfl Tryz.func29 (by kernel_rfl) rfl #[.string a0] rfl am ?_; (with_reducible refine (targumref4_Good.calls k a0 true _ A4.out).mono ?_); rintro e w' ⟨rfl, ⟨nd, rfl⟩⟩; refine ⟨_, rfl, ?_⟩)); go_meet
    case rel => exact ⟨_, (true), rq, H', ⟨by first | omega | exact Nat.le_refl _⟩, ⟨bl⟩⟩
   ·rw [if_neg c6] at H
    have c6b0 : decide (a1 < (-1099511627776)) = false := decide_eq_false c6; clear c6; (first | rw [c6b0] | (simp only [qi, qj]; rw [c6b0]) | skip); have H' := AM H; clear H; go_wp2_with (first | ((with_reducible refine gate_callee (f := 29) rfl ?_); refine goesL_ (some 9) rfl rfl Tryz.func29 (by kernel_rfl) rfl #[.string a0] rfl am ?_; (with_reducible refine (targumref4_Good.calls k a0 true _ A4.out).mono ?_); rintro e w' ⟨rfl, ⟨nd, rfl⟩⟩; refine ⟨_, rfl, ?_⟩)); go_meet
    case rel => exact ⟨_, (decide (a1 > 1099511627776)), rq, H', ⟨by first | omega | exact Nat.le_refl _⟩, ⟨bl⟩⟩
  ·replace c5 := Bool.eq_false_iff.mpr c5
   subst c5
   have H1 : (targumref4_Add.j0 k a0 a1 true) = some r := by rw [if_neg (show ¬ (false = true) by decide)] at H; exact H
   clear H
   have H := H1
   clear H1
   have H' := AM H
   clear H
   go_wp2_with (first | ((with_reducible refine gate_callee (f := 29) rfl ?_); refine goesL_ (some 9) rfl rfl Tryz.func29 (by kernel_rfl) rfl #[.string a0] rfl am ?_; (with_reducible refine (targumref4_Good.calls k a0 false _ A4.out).mono ?_); rintro e w' ⟨rfl, ⟨nd, rfl⟩⟩; refine ⟨_, rfl, ?_⟩))
   go_meet
   case rel => exact ⟨_, (true), rq, H', ⟨by first | omega | exact Nat.le_refl _⟩, ⟨bl⟩⟩
 case rest =>
  clear HC3
  obtain ⟨kq, x18_2, rfl, HA, HJ2, HB⟩ := hcut
  cases kq with
  | zero => exact absurd HA.out (by simp [targumref4_Add.j0])
  | succ kj2 =>
   have H := HA.out
   clear HA
   simp only [targumref4_Add.j0] at H
   by_cases c7 : x18_2 = true
   ·subst c7
    have H1 : (some (⟨#[]⟩ : ByteArray)) = some r := by rw [if_pos rfl] at H; exact H
    clear H; have H := H1; clear H1; obtain rfl := Option.some.inj H; go_wp2; go_ret
    exact ⟨ew, bl⟩
   ·replace c7 := Bool.eq_false_iff.mpr c7
    subst c7; have H1 : (if 0 < (a0.size : Int) then (if (bt a0 0) = 45 then (if 1 ≤ (a0.size : Int) then (targumref4_Add.j1 kj2 (a0.extract 1 a0.size) a1 ((bt a0 0) == 45) (decide (a1 < 0))) else (none)) else (targumref4_Add.j1 kj2 a0 a1 ((bt a0 0) == 45) (decide (a1 < 0)))) else (none)) = some r := by rw [if_neg (show ¬ (false = true) by decide)] at H; exact H
    clear H; have H := H1; clear H1; by_cases c8 : 0 < (a0.size : Int)
    ·rw [if_pos c8] at H
     have c8b0 : decide (0 < (a0.size : Int)) = true := decide_eq_true c8; have c8b1 : decide (0 < a0.size) = true := decide_eq_true (by omega); clear c8; have HC10 := AM H; clear H; have p9 : 0 ≤ (0 : Int) := (by omega); have q9 : 0 < a0.size := (by have : (0 : Int) < (a0.size : Int) := od; omega); have hx9 : ∀ h : 0 < a0.size, ((a0[0]'h).toNat : Int) = bt a0 0 := bt_at a0 0; clear p9; have qi9 : (0 < (a0.size : Int)) = True := eq_true (od); replace q9 := eq_true q9; go_upto_if 24 with (fail)
     go_cut [0, 5, 6] (fun v0 v5 v6 wc => ∃ (kq : Nat) (x0_9 : ByteArray) (x5_9 : Bool) (x6_9 : Bool), v0 = .string x0_9 ∧ v5 = .bool x5_9 ∧ v6 = .bool x6_9 ∧ Aside0 (targumref4_Add.j1 kq x0_9 a1 x5_9 x6_9 = some r) ∧ Aside0 (kq ≤ kj2) ∧ Aside0 (Below w.heap.size w wc))
     case first =>
      have H := HC10.out; clear HC10; by_cases c11 : (bt a0 0) = 45
      ·rw [if_pos c11] at H
       have c11b0 : ((bt a0 0) == 45) = true := beq_iff_eq.mpr c11; have c11b1 : ((bt a0 0) != 45) = false := bne_eq_false_iff_eq.mpr c11; clear c11; (first | rw [c11b0] | (simp only [qi, qj]; rw [c11b0]) | skip); by_cases c12 : 1 ≤ (a0.size : Int)
       ·rw [if_pos c12] at H
        have c12b0 := eq_true c12; have c12b1 : decide (1 ≤ (a0.size : Int)) = true := decide_eq_true c12; clear c12; have H' := AM H; clear H; go_wp2; go_meet
        case rel => exact ⟨_, (a0.extract 1 a0.size), (((bt a0 0) == 45)), (decide (a1 < 0)), rq, rq, rq, H', ⟨by have := HJ2.out; first | omega | exact Nat.le_refl _⟩, ⟨bl⟩⟩
       ·rw [if_neg c12] at H
        exact absurd H (by simp)
      ·rw [if_neg c11] at H
       have c11b0 : ((bt a0 0) == 45) = false := beq_eq_false_iff_ne.mpr c11; have c11b1 : ((bt a0 0) != 45) = true := bne_iff_ne.mpr c11; (first | rw [c11b0] | (simp only [qi, qj]; rw [c11b0]) | skip); have H' := AM H; clear H; go_wp2; go_meet
       case rel => exact ⟨_, (a0), (((bt a0 0) == 45)), (decide (a1 < 0)), rq, rq, rq, H', ⟨by have := HJ2.out; first | omega | exact Nat.le_refl _⟩, ⟨bl⟩⟩
     case rest =>
      clear HC10; try clear c7; try clear c8; try clear c8b0; try clear c8b1; try clear p9; try clear q9; try clear hx9; try clear qi9; try clear p9; try clear q9
      obtain ⟨kq, x0_9, x5_9, x6_9, rfl, rfl, rfl, HA, HJ9, HB⟩ := hcut; cases kq with
      | zero => exact absurd HA.out (by simp [targumref4_Add.j1])
      | succ kj9 =>
       have H := HA.out; clear HA; simp only [targumref4_Add.j1] at H; have HC13 := AM H; clear H; go_upto_if 27 with (fail)
       go_cut [1] (fun v1 wc => ∃ (kq : Nat) (x1_12 : Int), v1 = .int .i64 x1_12 ∧ Aside0 (targumref4_Add.j2 kq x0_9 x1_12 x5_9 x6_9 = some r) ∧ Aside0 (kq ≤ kj9) ∧ Aside0 (Below w.heap.size w wc))
       case first =>
        have H := HC13.out; clear HC13; by_cases c14 : x6_9 = true
        ·subst c14
         have H1 : (targumref4_Add.j2 kj9 x0_9 (wrap64 (-a1)) x5_9 true) = some r := by rw [if_pos rfl] at H; exact H
         clear H; have H := H1; clear H1; have H' := AM H; clear H; go_wp2; go_meet
         case rel => exact ⟨_, (wrap64 (-a1)), rq, H', ⟨by have := HJ2.out; have := HJ9.out; first | omega | exact Nat.le_refl _⟩, ⟨bl⟩⟩
        ·replace c14 := Bool.eq_false_iff.mpr c14
         subst c14; have H1 : (targumref4_Add.j2 kj9 x0_9 a1 x5_9 false) = some r := by rw [if_neg (show ¬ (false = true) by decide)] at H; exact H
         clear H; have H := H1; clear H1; have H' := AM H; clear H; go_wp2; go_meet
         case rel => exact ⟨_, (a1), rq, H', ⟨by have := HJ2.out; have := HJ9.out; first | omega | exact Nat.le_refl _⟩, ⟨bl⟩⟩
       case rest =>
        clear HC13; try clear c7; try clear c8; try clear c8b0; try clear c8b1; try clear p9; try clear q9; try clear hx9; try clear qi9; try clear p9; try clear q9
        obtain ⟨kq, x1_12, rfl, HA, HJ12, HB⟩ := hcut; cases kq with
        | zero => exact absurd HA.out (by simp [targumref4_Add.j2])
        | succ kj12 =>
         have H := HA.out; clear HA; simp only [targumref4_Add.j2] at H; by_cases c15 : (x5_9 == x6_9) = true
         ·rw [if_pos c15] at H
          have c15b0 : (x5_9 == x6_9) = true := c15; (try (have c15b1 : decide (x5_9 = x6_9) = true := by simpa using c15)); (try (have c15b2 : (x5_9 == x6_9) = true := by simpa using c15)); clear c15; replace H := Option.bind_eq_some_iff.mp H; obtain ⟨t247, A160, H⟩ := H; replace H : ((targumref4_Norm.f kj12 x5_9 t247).bind fun t248 => (some t248)) = some r := H; have A16 := AM A160; clear A160; replace H := Option.bind_eq_some_iff.mp H; obtain ⟨t248, A170, H⟩ := H; replace H : (some t248) = some r := H; have A17 := AM A170; clear A170; obtain rfl := Option.some.inj H; go_wp2_with (first | ((with_reducible refine gate_callee (f := 48) rfl ?_); refine goesL_ (some 36) rfl rfl Tryz.func48 (by kernel_rfl) rfl #[.string x0_9, .int .i64 1, .int .i64 x1_12] rfl am ?_; (with_reducible refine (targumref4_mulAdd.calls kj12 x0_9 1 x1_12 t247 _ A16.out).mono ?_); rintro e w18 ⟨rfl, hb⟩; refine ⟨_, rfl, ?_⟩; replace HB := AM (below_step bl hb); (try clear hb)) | ((with_reducible refine gate_callee (f := 13) rfl ?_); refine goesL_ (some 37) rfl rfl Tryz.func13 (by kernel_rfl) rfl #[.bool x5_9, .string t247] rfl am ?_; (with_reducible refine (targumref4_Norm.calls kj12 x5_9 t247 t248 _ A17.out).mono ?_); rintro e w' ⟨rfl, ⟨nd, rfl⟩⟩; refine ⟨_, rfl, ?_⟩)); go_ret
          exact ⟨ew, bl⟩
         ·rw [if_neg c15] at H
          have c15b0 : (x5_9 == x6_9) = false := by simpa using c15
          (try (have c15b1 : decide (x5_9 = x6_9) = false := by simpa using c15)); (try (have c15b2 : (x5_9 == x6_9) = false := by simpa using c15)); (try (have c15b3 : ¬ (x5_9 = x6_9) := by simpa using c15)); clear c15; replace H := Option.bind_eq_some_iff.mp H; obtain ⟨t249, A190, H⟩ := H; replace H : ((targumref4_compare.f x0_9 t249).bind fun t250 => (if t250 < 0 then ((targumref4_less.f kj12 t249 x0_9).bind fun t251 => ((targumref4_Norm.f kj12 x6_9 t251).bind fun t252 => (some t252))) else ((targumref4_less.f kj12 x0_9 t249).bind fun t253 => ((targumref4_Norm.f kj12 x5_9 t253).bind fun t254 => (some t254))))) = some r := H; have A19 := AM A190; clear A190; replace H := Option.bind_eq_some_iff.mp H; obtain ⟨t250, A200, H⟩ := H; replace H : (if t250 < 0 then ((targumref4_less.f kj12 t249 x0_9).bind fun t251 => ((targumref4_Norm.f kj12 x6_9 t251).bind fun t252 => (some t252))) else ((targumref4_less.f kj12 x0_9 t249).bind fun t253 => ((targumref4_Norm.f kj12 x5_9 t253).bind fun t254 => (some t254)))) = some r := H; have A20 := AM A200; clear A200; by_cases c21 : t250 < 0
          ·rw [if_pos c21] at H
           have c21b0 : decide (t250 < 0) = true := decide_eq_true c21; clear c21; replace H := Option.bind_eq_some_iff.mp H; obtain ⟨t251, A220, H⟩ := H; replace H : ((targumref4_Norm.f kj12 x6_9 t251).bind fun t252 => (some t252)) = some r := H; have A22 := AM A220; clear A220; replace H := Option.bind_eq_some_iff.mp H; obtain ⟨t252, A230, H⟩ := H; replace H : (some t252) = some r := H; have A23 := AM A230; clear A230; obtain rfl := Option.some.inj H; go_wp2_with (first | ((with_reducible refine gate_callee (f := 15) rfl ?_); refine goesL_ (some 39) rfl rfl Tryz.func15 (by kernel_rfl) rfl #[.int .i64 x1_12] rfl am ?_; (with_reducible refine (targumref4_Text.calls kj12 x1_12 t249 _ A19.out).mono ?_); rintro e w24 ⟨rfl, hb⟩; refine ⟨_, rfl, ?_⟩; replace HB := AM (below_step bl hb); (try clear hb)) | ((with_reducible refine gate_callee (f := 49) rfl ?_); refine goesL_ (some 42) rfl rfl Tryz.func49 (by kernel_rfl) rfl #[.string x0_9, .string t249] rfl am ?_; (with_reducible refine (targumref4_compare.calls x0_9 t249 t250 _ A20.out).mono ?_); rintro e w' ⟨rfl, ⟨nd, rfl⟩⟩; refine ⟨_, rfl, ?_⟩) | ((with_reducible refine gate_callee (f := 50) rfl ?_); refine goesL_ (some 47) rfl rfl Tryz.func50 (by kernel_rfl) rfl #[.string t249, .string x0_9] rfl am ?_; (with_reducible refine (targumref4_less.calls kj12 t249 x0_9 t251 _ A22.out).mono ?_); rintro e w25 ⟨rfl, hb⟩; refine ⟨_, rfl, ?_⟩; replace HB := AM (below_step bl hb); (try clear hb)) | ((with_reducible refine gate_callee (f := 13) rfl ?_); refine goesL_ (some 48) rfl rfl Tryz.func13 (by kernel_rfl) rfl #[.bool x6_9, .string t251] rfl am ?_; (with_reducible refine (targumref4_Norm.calls kj12 x6_9 t251 t252 _ A23.out).mono ?_); rintro e w' ⟨rfl, ⟨nd, rfl⟩⟩; refine ⟨_, rfl, ?_⟩)); go_ret
           exact ⟨ew, bl⟩
          ·rw [if_neg c21] at H
           have c21b0 : decide (t250 < 0) = false := decide_eq_false c21; clear c21; replace H := Option.bind_eq_some_iff.mp H; obtain ⟨t253, A260, H⟩ := H; replace H : ((targumref4_Norm.f kj12 x5_9 t253).bind fun t254 => (some t254)) = some r := H; have A26 := AM A260; clear A260; replace H := Option.bind_eq_some_iff.mp H; obtain ⟨t254, A270, H⟩ := H; replace H : (some t254) = some r := H; have A27 := AM A270; clear A270; obtain rfl := Option.some.inj H; go_wp2_with (first | ((with_reducible refine gate_callee (f := 15) rfl ?_); refine goesL_ (some 39) rfl rfl Tryz.func15 (by kernel_rfl) rfl #[.int .i64 x1_12] rfl am ?_; (with_reducible refine (targumref4_Text.calls kj12 x1_12 t249 _ A19.out).mono ?_); rintro e w28 ⟨rfl, hb⟩; refine ⟨_, rfl, ?_⟩; replace HB := AM (below_step bl hb); (try clear hb)) | ((with_reducible refine gate_callee (f := 49) rfl ?_); refine goesL_ (some 42) rfl rfl Tryz.func49 (by kernel_rfl) rfl #[.string x0_9, .string t249] rfl am ?_; (with_reducible refine (targumref4_compare.calls x0_9 t249 t250 _ A20.out).mono ?_); rintro e w' ⟨rfl, ⟨nd, rfl⟩⟩; refine ⟨_, rfl, ?_⟩) | ((with_reducible refine gate_callee (f := 50) rfl ?_); refine goesL_ (some 52) rfl rfl Tryz.func50 (by kernel_rfl) rfl #[.string x0_9, .string t249] rfl am ?_; (with_reducible refine (targumref4_less.calls kj12 x0_9 t249 t253 _ A26.out).mono ?_); rintro e w29 ⟨rfl, hb⟩; refine ⟨_, rfl, ?_⟩; replace HB := AM (below_step bl hb); (try clear hb)) | ((with_reducible refine gate_callee (f := 13) rfl ?_); refine goesL_ (some 53) rfl rfl Tryz.func13 (by kernel_rfl) rfl #[.bool x5_9, .string t253] rfl am ?_; (with_reducible refine (targumref4_Norm.calls kj12 x5_9 t253 t254 _ A27.out).mono ?_); rintro e w' ⟨rfl, ⟨nd, rfl⟩⟩; refine ⟨_, rfl, ?_⟩)); go_ret
           exact ⟨ew, bl⟩
    ·rw [if_neg c8] at H
     exact absurd H (by simp)

end Go.Proofs.YtkijneohhilboaaGreatDoor.PT
