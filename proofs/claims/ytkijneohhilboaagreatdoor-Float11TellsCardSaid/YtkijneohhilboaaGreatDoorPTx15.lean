/- Written by this session's own program (xprint, made over the kit's print): Lean functions with the same answers as the Go functions, and the proofs of that. Not trusted: Lean checks it. -/
import Derived.Test.YtkijneohhilboaaGreatDoorPTx0
import Derived.Test.YtkijneohhilboaaGreatDoorPTx9
import Derived.Test.YtkijneohhilboaaGreatDoorPTx13
import Derived.Test.YtkijneohhilboaaGreatDoorPTx14
import Derived.Test.YtkijneohhilboaaGreatDoorXW
import Derived.Test.YtkijneohhilboaaGreatDoorXZ
namespace Go.Proofs.YtkijneohhilboaaGreatDoor.PT
open Go.Proofs.YtkijneohhilboaaGreatDoor.XZ
open Go.Proofs.YtkijneohhilboaaGreatDoor.XW Go.RowKit Go.Proofs.YtkijneohhilboaaGreatDoorW.PrintWords Go.Proofs.YtkijneohhilboaaGreatDoorW.PrintLast Go.Proofs.YtkijneohhilboaaGreatDoorW.PrintMore
attribute [local go_sem] max2_int min2_int max_two min_two max_three min_three max_four min_four   -- for this text's walks alone
set_option linter.unusedVariables false
set_option linter.unusedSimpArgs false

/-! ### targumref6_sixty: function 27 -/
mutual
def targumref6_sixty.j0 : Nat → ByteArray → Int → Bool → Option (ByteArray × Bool)
 | 0, _, _, _ => none
 | k + 1, x0, x4, x21 => if x21 = true then (some ((⟨#[]⟩ : ByteArray), false)) else (if 0 ≤ x4 then (if x4 ≤ (x0.size : Int) then ((targumref6_bare.f k (x0.extract 0 (x4 : Int).toNat) 10).bind fun bt275 => (if bt275.2 = true then ((targumref4_Norm.f k false bt275.1).bind fun t277 => (targumref6_sixty.l0 k x0 x4 t277)) else (some ((⟨#[]⟩ : ByteArray), false)))) else (none)) else (none))
def targumref6_sixty.l0 : Nat → ByteArray → Int → ByteArray → Option (ByteArray × Bool)
 | 0, _, _, _ => none
 | k + 1, x0, x4, x7 => if x4 < (x0.size : Int) then (if 0 ≤ (wrap64 (x4 + 1)) then (if (wrap64 (x4 + 1)) ≤ (x0.size : Int) then ((targumref6_find.f k (x0.extract ((wrap64 (x4 + 1)) : Int).toNat x0.size) 58).bind fun t278 => (if t278 < 0 then (targumref6_sixty.j2 k x0 x4 x7 (x0.extract ((wrap64 (x4 + 1)) : Int).toNat x0.size) ((x0.extract ((wrap64 (x4 + 1)) : Int).toNat x0.size).size : Int)) else (targumref6_sixty.j2 k x0 x4 x7 (x0.extract ((wrap64 (x4 + 1)) : Int).toNat x0.size) t278))) else (none)) else (none)) else (some (x7, true))
def targumref6_sixty.j2 : Nat → ByteArray → Int → ByteArray → ByteArray → Int → Option (ByteArray × Bool)
 | 0, _, _, _, _, _ => none
 | k + 1, x0, x4, x7, x8, x9 => if 0 ≤ x9 then (if x9 ≤ (x8.size : Int) then ((targumref4_Digits.f k (x8.extract 0 (x9 : Int).toNat)).bind fun t279 => (if t279 = true then (if ((x8.extract 0 (x9 : Int).toNat).size : Int) > 2 then (targumref6_sixty.j3 k x0 x4 x7 (x8.extract 0 (x9 : Int).toNat) x9 true) else (if ((x8.extract 0 (x9 : Int).toNat).size : Int) = 2 then (if 0 < ((x8.extract 0 (x9 : Int).toNat).size : Int) then (targumref6_sixty.j3 k x0 x4 x7 (x8.extract 0 (x9 : Int).toNat) x9 (decide ((bt (x8.extract 0 (x9 : Int).toNat) 0) > 53))) else (none)) else (targumref6_sixty.j3 k x0 x4 x7 (x8.extract 0 (x9 : Int).toNat) x9 false))) else (targumref6_sixty.j3 k x0 x4 x7 (x8.extract 0 (x9 : Int).toNat) x9 true))) else (none)) else (none)
def targumref6_sixty.j3 : Nat → ByteArray → Int → ByteArray → ByteArray → Int → Bool → Option (ByteArray × Bool)
 | 0, _, _, _, _, _, _ => none
 | k + 1, x0, x4, x7, x8, x9, x67 => if x67 = true then (some ((⟨#[]⟩ : ByteArray), false)) else (targumref6_sixty.l1 k x0 x4 x7 x8 x9 0 0)
def targumref6_sixty.l1 : Nat → ByteArray → Int → ByteArray → ByteArray → Int → Int → Int → Option (ByteArray × Bool)
 | 0, _, _, _, _, _, _, _ => none
 | k + 1, x0, x4, x7, x8, x9, x10, x11 => if x11 < (x8.size : Int) then (if 0 ≤ x11 then (targumref6_sixty.l1 k x0 x4 x7 x8 x9 (wrap64 ((wrap64 (10 * x10)) + (((bt x8 x11) - 48) % 256))) (wrap64 (x11 + 1))) else (none)) else ((targumref4_MulAdd.f k x7 60 x10).bind fun t280 => (targumref6_sixty.l0 k x0 (wrap64 ((wrap64 (x4 + 1)) + x9)) t280))
end
def targumref6_sixty.f (k : Nat) (a0 : ByteArray) : Option (ByteArray × Bool) := (targumref6_find.f k a0 58).bind fun t273 => (if t273 < 1 then (targumref6_sixty.j0 k a0 t273 true) else (if 0 < (a0.size : Int) then ((targumref4_IsDigit.f (bt a0 0)).bind fun t274 => (targumref6_sixty.j0 k a0 t273 (!t274))) else (none)))
theorem targumref6_sixty.mono_l : ∀ k, (∀ y0 y1 y2, LeO (targumref6_sixty.j0 k y0 y1 y2) (targumref6_sixty.j0 (k + 1) y0 y1 y2)) ∧ (∀ y0 y1 y2, LeO (targumref6_sixty.l0 k y0 y1 y2) (targumref6_sixty.l0 (k + 1) y0 y1 y2)) ∧ (∀ y0 y1 y2 y3 y4, LeO (targumref6_sixty.j2 k y0 y1 y2 y3 y4) (targumref6_sixty.j2 (k + 1) y0 y1 y2 y3 y4)) ∧ (∀ y0 y1 y2 y3 y4 y5, LeO (targumref6_sixty.j3 k y0 y1 y2 y3 y4 y5) (targumref6_sixty.j3 (k + 1) y0 y1 y2 y3 y4 y5)) ∧ (∀ y0 y1 y2 y3 y4 y5 y6, LeO (targumref6_sixty.l1 k y0 y1 y2 y3 y4 y5 y6) (targumref6_sixty.l1 (k + 1) y0 y1 y2 y3 y4 y5 y6))
 | 0 => ⟨fun _ _ _ r h => by simp [targumref6_sixty.j0] at h, fun _ _ _ r h => by simp [targumref6_sixty.l0] at h, fun _ _ _ _ _ r h => by simp [targumref6_sixty.j2] at h, fun _ _ _ _ _ _ r h => by simp [targumref6_sixty.j3] at h, fun _ _ _ _ _ _ _ r h => by simp [targumref6_sixty.l1] at h⟩
 | k + 1 => by
  obtain ⟨ih0, ih1, ih2, ih3, ih4⟩ := targumref6_sixty.mono_l k
  refine ⟨?_, ?_, ?_, ?_, ?_⟩
  ·intro y0 y1 y2
   unfold targumref6_sixty.j0
   repeat' first | (with_reducible exact ih0 _ _ _) | (with_reducible exact ih1 _ _ _) | (with_reducible exact ih2 _ _ _ _ _) | (with_reducible exact ih3 _ _ _ _ _ _) | (with_reducible exact ih4 _ _ _ _ _ _ _) | (with_reducible exact targumref4_Digits.mono _ _) | (with_reducible exact targumref4_MulAdd.mono _ _ _ _) | (with_reducible exact targumref4_Norm.mono _ _ _) | (with_reducible exact targumref6_bare.mono _ _ _) | (with_reducible exact targumref6_find.mono _ _ _) | (with_reducible exact LeO.refl _) | (with_reducible exact LeO.none _) | (with_reducible refine LeO.ite ?_ ?_) | (with_reducible refine LeO.bind ?_ (fun _ => ?_)) | exact ih0 _ _ _ | exact ih1 _ _ _ | exact ih2 _ _ _ _ _ | exact ih3 _ _ _ _ _ _ | exact ih4 _ _ _ _ _ _ _ | exact targumref4_Digits.mono _ _ | exact targumref4_MulAdd.mono _ _ _ _ | exact targumref4_Norm.mono _ _ _ | exact targumref6_bare.mono _ _ _ | exact targumref6_find.mono _ _ _ | exact LeO.none _ | refine LeO.ite ?_ ?_ | refine LeO.bind ?_ (fun _ => ?_)
  ·intro y0 y1 y2
   unfold targumref6_sixty.l0
   repeat' first | (with_reducible exact ih0 _ _ _) | (with_reducible exact ih1 _ _ _) | (with_reducible exact ih2 _ _ _ _ _) | (with_reducible exact ih3 _ _ _ _ _ _) | (with_reducible exact ih4 _ _ _ _ _ _ _) | (with_reducible exact targumref4_Digits.mono _ _) | (with_reducible exact targumref4_MulAdd.mono _ _ _ _) | (with_reducible exact targumref4_Norm.mono _ _ _) | (with_reducible exact targumref6_bare.mono _ _ _) | (with_reducible exact targumref6_find.mono _ _ _) | (with_reducible exact LeO.refl _) | (with_reducible exact LeO.none _) | (with_reducible refine LeO.ite ?_ ?_) | (with_reducible refine LeO.bind ?_ (fun _ => ?_)) | exact ih0 _ _ _ | exact ih1 _ _ _ | exact ih2 _ _ _ _ _ | exact ih3 _ _ _ _ _ _ | exact ih4 _ _ _ _ _ _ _ | exact targumref4_Digits.mono _ _ | exact targumref4_MulAdd.mono _ _ _ _ | exact targumref4_Norm.mono _ _ _ | exact targumref6_bare.mono _ _ _ | exact targumref6_find.mono _ _ _ | exact LeO.none _ | refine LeO.ite ?_ ?_ | refine LeO.bind ?_ (fun _ => ?_)
  ·intro y0 y1 y2 y3 y4
   unfold targumref6_sixty.j2
   repeat' first | (with_reducible exact ih0 _ _ _) | (with_reducible exact ih1 _ _ _) | (with_reducible exact ih2 _ _ _ _ _) | (with_reducible exact ih3 _ _ _ _ _ _) | (with_reducible exact ih4 _ _ _ _ _ _ _) | (with_reducible exact targumref4_Digits.mono _ _) | (with_reducible exact targumref4_MulAdd.mono _ _ _ _) | (with_reducible exact targumref4_Norm.mono _ _ _) | (with_reducible exact targumref6_bare.mono _ _ _) | (with_reducible exact targumref6_find.mono _ _ _) | (with_reducible exact LeO.refl _) | (with_reducible exact LeO.none _) | (with_reducible refine LeO.ite ?_ ?_) | (with_reducible refine LeO.bind ?_ (fun _ => ?_)) | exact ih0 _ _ _ | exact ih1 _ _ _ | exact ih2 _ _ _ _ _ | exact ih3 _ _ _ _ _ _ | exact ih4 _ _ _ _ _ _ _ | exact targumref4_Digits.mono _ _ | exact targumref4_MulAdd.mono _ _ _ _ | exact targumref4_Norm.mono _ _ _ | exact targumref6_bare.mono _ _ _ | exact targumref6_find.mono _ _ _ | exact LeO.none _ | refine LeO.ite ?_ ?_ | refine LeO.bind ?_ (fun _ => ?_)
  ·intro y0 y1 y2 y3 y4 y5
   unfold targumref6_sixty.j3
   repeat' first | (with_reducible exact ih0 _ _ _) | (with_reducible exact ih1 _ _ _) | (with_reducible exact ih2 _ _ _ _ _) | (with_reducible exact ih3 _ _ _ _ _ _) | (with_reducible exact ih4 _ _ _ _ _ _ _) | (with_reducible exact targumref4_Digits.mono _ _) | (with_reducible exact targumref4_MulAdd.mono _ _ _ _) | (with_reducible exact targumref4_Norm.mono _ _ _) | (with_reducible exact targumref6_bare.mono _ _ _) | (with_reducible exact targumref6_find.mono _ _ _) | (with_reducible exact LeO.refl _) | (with_reducible exact LeO.none _) | (with_reducible refine LeO.ite ?_ ?_) | (with_reducible refine LeO.bind ?_ (fun _ => ?_)) | exact ih0 _ _ _ | exact ih1 _ _ _ | exact ih2 _ _ _ _ _ | exact ih3 _ _ _ _ _ _ | exact ih4 _ _ _ _ _ _ _ | exact targumref4_Digits.mono _ _ | exact targumref4_MulAdd.mono _ _ _ _ | exact targumref4_Norm.mono _ _ _ | exact targumref6_bare.mono _ _ _ | exact targumref6_find.mono _ _ _ | exact LeO.none _ | refine LeO.ite ?_ ?_ | refine LeO.bind ?_ (fun _ => ?_)
  ·intro y0 y1 y2 y3 y4 y5 y6
   unfold targumref6_sixty.l1
   repeat' first | (with_reducible exact ih0 _ _ _) | (with_reducible exact ih1 _ _ _) | (with_reducible exact ih2 _ _ _ _ _) | (with_reducible exact ih3 _ _ _ _ _ _) | (with_reducible exact ih4 _ _ _ _ _ _ _) | (with_reducible exact targumref4_Digits.mono _ _) | (with_reducible exact targumref4_MulAdd.mono _ _ _ _) | (with_reducible exact targumref4_Norm.mono _ _ _) | (with_reducible exact targumref6_bare.mono _ _ _) | (with_reducible exact targumref6_find.mono _ _ _) | (with_reducible exact LeO.refl _) | (with_reducible exact LeO.none _) | (with_reducible refine LeO.ite ?_ ?_) | (with_reducible refine LeO.bind ?_ (fun _ => ?_)) | exact ih0 _ _ _ | exact ih1 _ _ _ | exact ih2 _ _ _ _ _ | exact ih3 _ _ _ _ _ _ | exact ih4 _ _ _ _ _ _ _ | exact targumref4_Digits.mono _ _ | exact targumref4_MulAdd.mono _ _ _ _ | exact targumref4_Norm.mono _ _ _ | exact targumref6_bare.mono _ _ _ | exact targumref6_find.mono _ _ _ | exact LeO.none _ | refine LeO.ite ?_ ?_ | refine LeO.bind ?_ (fun _ => ?_)
theorem targumref6_sixty.mono : ∀ a0 k, LeO (targumref6_sixty.f k a0) (targumref6_sixty.f (k + 1) a0) := by
 intro a0 k
 obtain ⟨ih0, ih1, ih2, ih3, ih4⟩ := targumref6_sixty.mono_l k
 unfold targumref6_sixty.f
 repeat' first | (with_reducible exact ih0 _ _ _) | (with_reducible exact ih1 _ _ _) | (with_reducible exact ih2 _ _ _ _ _) | (with_reducible exact ih3 _ _ _ _ _ _) | (with_reducible exact ih4 _ _ _ _ _ _ _) | (with_reducible exact targumref4_Digits.mono _ _) | (with_reducible exact targumref4_MulAdd.mono _ _ _ _) | (with_reducible exact targumref4_Norm.mono _ _ _) | (with_reducible exact targumref6_bare.mono _ _ _) | (with_reducible exact targumref6_find.mono _ _ _) | (with_reducible exact LeO.refl _) | (with_reducible exact LeO.none _) | (with_reducible refine LeO.ite ?_ ?_) | (with_reducible refine LeO.bind ?_ (fun _ => ?_)) | exact ih0 _ _ _ | exact ih1 _ _ _ | exact ih2 _ _ _ _ _ | exact ih3 _ _ _ _ _ _ | exact ih4 _ _ _ _ _ _ _ | exact targumref4_Digits.mono _ _ | exact targumref4_MulAdd.mono _ _ _ _ | exact targumref4_Norm.mono _ _ _ | exact targumref6_bare.mono _ _ _ | exact targumref6_find.mono _ _ _ | exact LeO.none _ | refine LeO.ite ?_ ?_ | refine LeO.bind ?_ (fun _ => ?_)
set_option maxHeartbeats 8000000 in
set_option maxRecDepth 100000 in
theorem targumref6_sixty.calls (k : Nat) (a0 : ByteArray) (r1 : ByteArray) (r2 : Bool) (w : World) (h : targumref6_sixty.f k a0 = some (r1, r2)) :
  Calls Tryz.prog 27 #[.string a0] w fun e w' => e = .returned (.tuple #[.string r1, .bool r2]) ∧ Below w.heap.size w w' := by
 have HB := AM (Below.refl w.heap.size w)
 have H : ((targumref6_find.f k a0 58).bind fun t273 => (if t273 < 1 then (targumref6_sixty.j0 k a0 t273 true) else (if 0 < (a0.size : Int) then ((targumref4_IsDigit.f (bt a0 0)).bind fun t274 => (targumref6_sixty.j0 k a0 t273 (!t274))) else (none)))) = some (r1, r2) := h
 clear h
 replace H := Option.bind_eq_some_iff.mp H
 obtain ⟨t273, A20, H⟩ := H
 replace H : (if t273 < 1 then (targumref6_sixty.j0 k a0 t273 true) else (if 0 < (a0.size : Int) then ((targumref4_IsDigit.f (bt a0 0)).bind fun t274 => (targumref6_sixty.j0 k a0 t273 (!t274))) else (none))) = some (r1, r2) := H
 have A2 := AM A20
 clear A20
 have HC3 := AM H
 clear H
 go_enter Tryz.func27, Tryz.ntmps27
 go_upto_region 2 with (first | ((with_reducible refine gate_callee (f := 23) rfl ?_); refine goesL_ (some 13) rfl rfl Tryz.func23 (by kernel_rfl) rfl #[.string a0, .int .u8 58] rfl am ?_; (with_reducible refine (targumref6_find.calls k a0 58 t273 _ A2.out).mono ?_); rintro e w' ⟨rfl, ⟨nd, rfl⟩⟩; refine ⟨_, rfl, ?_⟩))
 (try simp only [Act.put, qI, qz, qs])
 go_cut [21] (fun v21 wc => ∃ (kq : Nat) (x21_2 : Bool), v21 = .bool x21_2 ∧ Aside0 (targumref6_sixty.j0 kq a0 t273 x21_2 = some (r1, r2)) ∧ Aside0 (kq ≤ k) ∧ Aside0 (Below w.heap.size w wc))
 case first =>
  have H := HC3.out
  clear HC3
  by_cases c4 : t273 < 1
  ·rw [if_pos c4] at H
   have c4b0 : decide (t273 < 1) = true := decide_eq_true c4
   clear c4
   (first | rw [c4b0] | (simp only [qi, qj]; rw [c4b0]) | skip)
   have H' := AM H
   clear H
   go_wp2
   go_meet
   case rel => exact ⟨_, (true), rq, H', ⟨by first | omega | exact Nat.le_refl _⟩, ⟨bl⟩⟩
  ·rw [if_neg c4] at H
   have c4b0 : decide (t273 < 1) = false := decide_eq_false c4
   clear c4
   (first | rw [c4b0] | (simp only [qi, qj]; rw [c4b0]) | skip)
   by_cases c5 : 0 < (a0.size : Int)
   ·rw [if_pos c5] at H
    have c5b0 : decide (0 < (a0.size : Int)) = true := decide_eq_true c5; have c5b1 : decide (0 < a0.size) = true := decide_eq_true (by omega); clear c5; replace H := Option.bind_eq_some_iff.mp H; obtain ⟨t274, A70, H⟩ := H; replace H : (targumref6_sixty.j0 k a0 t273 (!t274)) = some (r1, r2) := H; have A7 := AM A70; clear A70; have H' := AM H; clear H; have p6 : 0 ≤ (0 : Int) := (by omega); have q6 : 0 < a0.size := (by have : (0 : Int) < (a0.size : Int) := od; omega); have hx6 : ∀ h : 0 < a0.size, ((a0[0]'h).toNat : Int) = bt a0 0 := bt_at a0 0; clear p6; have qi6 : (0 < (a0.size : Int)) = True := eq_true (od); replace q6 := eq_true q6; go_wp2_with (first | (go_at_call 24; (try (rename_i hK_; simp only [List.append] at hK_)); (with_reducible refine (targumref4_IsDigit.calls (bt a0 0) t274 _ A7.out).mono ?_); rintro e w' ⟨rfl, ⟨nd, rfl⟩⟩)); go_meet
    case rel => exact ⟨_, (!t274), rq, H', ⟨by first | omega | exact Nat.le_refl _⟩, ⟨bl⟩⟩
   ·rw [if_neg c5] at H
    exact absurd H (by simp)
 case rest =>
  clear HC3
  obtain ⟨kq, x21_2, rfl, HA, HJ2, HB⟩ := hcut
  cases kq with
  | zero => exact absurd HA.out (by simp [targumref6_sixty.j0])
  | succ kj2 =>
   have H := HA.out
   clear HA
   simp only [targumref6_sixty.j0] at H
   by_cases c8 : x21_2 = true
   ·subst c8
    have H1 : (some ((⟨#[]⟩ : ByteArray), false)) = some (r1, r2) := by rw [if_pos rfl] at H; exact H
    clear H; have H := H1; clear H1; simp only [Option.some.injEq, Prod.mk.injEq] at H; obtain ⟨rfl, rfl⟩ := H; go_wp2; go_ret2
    exact ⟨ew, bl⟩
   ·replace c8 := Bool.eq_false_iff.mpr c8
    subst c8; have H1 : (if 0 ≤ t273 then (if t273 ≤ (a0.size : Int) then ((targumref6_bare.f kj2 (a0.extract 0 (t273 : Int).toNat) 10).bind fun bt275 => (if bt275.2 = true then ((targumref4_Norm.f kj2 false bt275.1).bind fun t277 => (targumref6_sixty.l0 kj2 a0 t273 t277)) else (some ((⟨#[]⟩ : ByteArray), false)))) else (none)) else (none)) = some (r1, r2) := by rw [if_neg (show ¬ (false = true) by decide)] at H; exact H
    clear H; have H := H1; clear H1; by_cases c9 : 0 ≤ t273
    ·rw [if_pos c9] at H
     have c9b0 := eq_true c9; have c9b1 : decide (0 ≤ t273) = true := decide_eq_true c9; clear c9; by_cases c10 : t273 ≤ (a0.size : Int)
     ·rw [if_pos c10] at H
      have c10b0 := eq_true c10; have c10b1 : decide (t273 ≤ (a0.size : Int)) = true := decide_eq_true c10; clear c10; replace H := Option.bind_eq_some_iff.mp H; obtain ⟨⟨t275, t276⟩, A110, H⟩ := H; replace H : (if t276 = true then ((targumref4_Norm.f kj2 false t275).bind fun t277 => (targumref6_sixty.l0 kj2 a0 t273 t277)) else (some ((⟨#[]⟩ : ByteArray), false))) = some (r1, r2) := H; have A11 := AM A110; clear A110; by_cases c12 : t276 = true
      ·subst c12
       have H1 : ((targumref4_Norm.f kj2 false t275).bind fun t277 => (targumref6_sixty.l0 kj2 a0 t273 t277)) = some (r1, r2) := by rw [if_pos rfl] at H; exact H
       clear H; have H := H1; clear H1; replace H := Option.bind_eq_some_iff.mp H; obtain ⟨t277, A130, H⟩ := H; replace H : (targumref6_sixty.l0 kj2 a0 t273 t277) = some (r1, r2) := H; have A13 := AM A130; clear A130; have H' := AM H; clear H; go_wp2_with (first | ((with_reducible refine gate_callee (f := 25) rfl ?_); refine goesL_ (some 26) rfl rfl Tryz.func25 (by kernel_rfl) rfl #[.string (a0.extract 0 (t273 : Int).toNat), .int .i64 10] rfl am ?_; (with_reducible refine (targumref6_bare.calls kj2 (a0.extract 0 (t273 : Int).toNat) 10 t275 true _ A11.out).mono ?_); rintro e w14 ⟨rfl, hb⟩; refine ⟨_, rfl, ?_⟩; replace HB := AM (below_step bl hb); (try clear hb)) | ((with_reducible refine gate_callee (f := 13) rfl ?_); refine goesL_ (some 32) rfl rfl Tryz.func13 (by kernel_rfl) rfl #[.bool false, .string t275] rfl am ?_; (with_reducible refine (targumref4_Norm.calls kj2 false t275 t277 _ A13.out).mono ?_); rintro e w' ⟨rfl, ⟨nd, rfl⟩⟩; refine ⟨_, rfl, ?_⟩)); go_loopg [4, 7] kj2 (fun kq v4 v7 w' => ∃ (x4_2 : Int) (x7_2 : ByteArray), v4 = .int .i64 x4_2 ∧ v7 = .string x7_2 ∧ Aside0 (targumref6_sixty.l0 kq a0 x4_2 x7_2 = some (r1, r2)) ∧ Aside0 (kq ≤ kj2) ∧ Aside0 (Below w.heap.size w w'))
       case atStart => exact ⟨(t273), (t277), rq, rq, H', ⟨Nat.le_refl _⟩, ⟨bl⟩⟩
       case round =>
        clear H'; try clear c8; try clear c9; try clear c9b0; try clear c9b1; try clear c10; try clear c10b0; try clear c10b1; try clear c12
        obtain ⟨x4_2, x7_2, rfl, rfl, HA, HK2, HB⟩ := hrel; cases gk with
        | zero => exact absurd HA.out (by simp [targumref6_sixty.l0])
        | succ k2 =>
         have H := HA.out; clear HA; simp only [targumref6_sixty.l0] at H; by_cases c15 : x4_2 < (a0.size : Int)
         ·rw [if_pos c15] at H
          have c15b0 : decide (x4_2 < (a0.size : Int)) = true := decide_eq_true c15; clear c15; obtain ⟨ji16, hji16⟩ : ∃ j_ : Int, (wrap64 (x4_2 + 1)) = j_ := ⟨_, rfl⟩; replace H : (if 0 ≤ (ji16) then (if (ji16) ≤ (a0.size : Int) then ((targumref6_find.f k2 (a0.extract ((ji16) : Int).toNat a0.size) 58).bind fun t278 => (if t278 < 0 then (targumref6_sixty.j2 k2 a0 x4_2 x7_2 (a0.extract ((ji16) : Int).toNat a0.size) ((a0.extract ((ji16) : Int).toNat a0.size).size : Int)) else (targumref6_sixty.j2 k2 a0 x4_2 x7_2 (a0.extract ((ji16) : Int).toNat a0.size) t278))) else (none)) else (none)) = some (r1, r2) := by first | (rw [hji16] at H; exact H) | (simp only [hji16] at H ⊢; exact H)
          have hji16w : (IntKind.i64.wrap (x4_2 + 1)) = ji16 := (qi _).trans hji16; by_cases c17 : 0 ≤ (ji16)
          ·rw [if_pos c17] at H
           have c17b0 := eq_true c17; have c17b1 : decide (0 ≤ (ji16)) = true := decide_eq_true c17; clear c17; by_cases c18 : (ji16) ≤ (a0.size : Int)
           ·rw [if_pos c18] at H
            have c18b0 := eq_true c18; have c18b1 : decide ((ji16) ≤ (a0.size : Int)) = true := decide_eq_true c18; clear c18; replace H := Option.bind_eq_some_iff.mp H; obtain ⟨t278, A190, H⟩ := H; replace H : (if t278 < 0 then (targumref6_sixty.j2 k2 a0 x4_2 x7_2 (a0.extract ((ji16) : Int).toNat a0.size) ((a0.extract ((ji16) : Int).toNat a0.size).size : Int)) else (targumref6_sixty.j2 k2 a0 x4_2 x7_2 (a0.extract ((ji16) : Int).toNat a0.size) t278)) = some (r1, r2) := H; have A19 := AM A190; clear A190; have HC20 := AM H; clear H; go_upto_if 44 with (first | ((with_reducible refine gate_callee (f := 23) rfl ?_); refine goesL_ (some 42) rfl rfl Tryz.func23 (by kernel_rfl) rfl #[.string (a0.extract ((ji16) : Int).toNat a0.size), .int .u8 58] rfl (by (try simp only [qT, qC, qN]); first | done | (simp only [hji16]; rfl) | rfl | (simp only [qD, qU]; rfl)) ?_; (with_reducible refine (targumref6_find.calls k2 (a0.extract ((ji16) : Int).toNat a0.size) 58 t278 _ A19.out).mono ?_); rintro e w' ⟨rfl, ⟨nd, rfl⟩⟩; refine ⟨_, rfl, ?_⟩))
            (try simp only [Act.put, qI, qz, qs]); go_cut [9] (fun v9 wc => ∃ (kq : Nat) (x9_19 : Int), v9 = .int .i64 x9_19 ∧ Aside0 (targumref6_sixty.j2 kq a0 x4_2 x7_2 (a0.extract ((ji16) : Int).toNat a0.size) x9_19 = some (r1, r2)) ∧ Aside0 (kq ≤ k2) ∧ Aside0 (Below w.heap.size w wc))
            case first =>
             have H := HC20.out; clear HC20; by_cases c21 : t278 < 0
             ·rw [if_pos c21] at H
              have c21b0 : decide (t278 < 0) = true := decide_eq_true c21; clear c21; (first | rw [c21b0] | (simp only [qi, qj]; rw [c21b0]) | skip); have H' := AM H; clear H; go_wp2; go_meet
              case rel => exact ⟨_, (((a0.extract ((ji16) : Int).toNat a0.size).size : Int)), (by first | rfl | (simp; done) | (simp only [← hji16] <;> (first | rfl | simp)) | (simp [*]; done)), H', ⟨by have := HJ2.out; have := HK2.out; first | omega | exact Nat.le_refl _⟩, ⟨bl⟩⟩
             ·rw [if_neg c21] at H
              have c21b0 : decide (t278 < 0) = false := decide_eq_false c21; clear c21; (first | rw [c21b0] | (simp only [qi, qj]; rw [c21b0]) | skip); have H' := AM H; clear H; go_wp2; go_meet
              case rel => exact ⟨_, (t278), rq, H', ⟨by have := HJ2.out; have := HK2.out; first | omega | exact Nat.le_refl _⟩, ⟨bl⟩⟩
            case rest =>
             clear HC20; try clear c8; try clear c9; try clear c9b0; try clear c9b1; try clear c10; try clear c10b0; try clear c10b1; try clear c12; try clear c15; try clear c15b0; try clear c17; try clear c17b0; try clear c17b1; try clear c18; try clear c18b0; try clear c18b1
             obtain ⟨kq, x9_19, rfl, HA, HJ19, HB⟩ := hcut; cases kq with
             | zero => exact absurd HA.out (by simp [targumref6_sixty.j2])
             | succ kj19 =>
              have H := HA.out; clear HA; simp only [targumref6_sixty.j2] at H; by_cases c22 : 0 ≤ x9_19
              ·rw [if_pos c22] at H
               have c22b0 := eq_true c22; have c22b1 : decide (0 ≤ x9_19) = true := decide_eq_true c22; clear c22; by_cases c23 : x9_19 ≤ ((a0.extract ((ji16) : Int).toNat a0.size).size : Int)
               ·rw [if_pos c23] at H
                have c23b0 := eq_true c23; have c23b1 : decide (x9_19 ≤ ((a0.extract ((ji16) : Int).toNat a0.size).size : Int)) = true := decide_eq_true c23; try (have c23s := of_decide_eq_true c23b1; simp only [ByteArray.size_extract, Nat.min_self] at c23s; have c23t := eq_true c23s)
                clear c23; have HC24 := AM H; clear H; go_upto_region 14 with (fail)
                generalize htt483_ : ((a0.extract ((ji16) : Int).toNat a0.size).extract 0 (x9_19 : Int).toNat) = tt483 at HC24 ⊢; clear htt483_; go_cut [67] (fun v67 wc => ∃ (kq : Nat) (x67_23 : Bool), v67 = .bool x67_23 ∧ Aside0 (targumref6_sixty.j3 kq a0 x4_2 x7_2 tt483 x9_19 x67_23 = some (r1, r2)) ∧ Aside0 (kq ≤ kj19) ∧ Aside0 (Below w.heap.size w wc))
                case first =>
                 have H := HC24.out; clear HC24; replace H := Option.bind_eq_some_iff.mp H; obtain ⟨t279, A250, H⟩ := H; replace H : (if t279 = true then (if (tt483.size : Int) > 2 then (targumref6_sixty.j3 kj19 a0 x4_2 x7_2 tt483 x9_19 true) else (if (tt483.size : Int) = 2 then (if 0 < (tt483.size : Int) then (targumref6_sixty.j3 kj19 a0 x4_2 x7_2 tt483 x9_19 (decide ((bt tt483 0) > 53))) else (none)) else (targumref6_sixty.j3 kj19 a0 x4_2 x7_2 tt483 x9_19 false))) else (targumref6_sixty.j3 kj19 a0 x4_2 x7_2 tt483 x9_19 true)) = some (r1, r2) := H; have A25 := AM A250; clear A250; by_cases c26 : t279 = true
                 ·subst c26
                  have H1 : (if (tt483.size : Int) > 2 then (targumref6_sixty.j3 kj19 a0 x4_2 x7_2 tt483 x9_19 true) else (if (tt483.size : Int) = 2 then (if 0 < (tt483.size : Int) then (targumref6_sixty.j3 kj19 a0 x4_2 x7_2 tt483 x9_19 (decide ((bt tt483 0) > 53))) else (none)) else (targumref6_sixty.j3 kj19 a0 x4_2 x7_2 tt483 x9_19 false))) = some (r1, r2) := by rw [if_pos rfl] at H; exact H
                  clear H; have H := H1; clear H1; by_cases c27 : (tt483.size : Int) > 2
                  ·rw [if_pos c27] at H
                   have c27b0 : decide (2 < (tt483.size : Int)) = true := decide_eq_true c27; have c27b1 : decide (2 < tt483.size) = true := decide_eq_true (by omega); clear c27; (first | rw [c27b0] | (simp only [qi, qj]; rw [c27b0]) | skip); have H' := AM H; clear H; go_wp2_with (first | ((with_reducible refine gate_callee (f := 28) rfl ?_); refine goesL_ (some 51) rfl rfl Tryz.func28 (by kernel_rfl) rfl #[.string tt483] rfl (by (try simp only [qT, qC, qN]); first | done | (simp only [hji16]; rfl) | rfl | (simp only [qD, qU]; rfl)) ?_; (with_reducible refine (targumref4_Digits.calls kj19 tt483 true _ A25.out).mono ?_); rintro e w' ⟨rfl, ⟨nd, rfl⟩⟩; refine ⟨_, rfl, ?_⟩)); go_meet
                   case rel => exact ⟨_, (true), rq, H', ⟨by have := HJ2.out; have := HK2.out; have := HJ19.out; first | omega | exact Nat.le_refl _⟩, ⟨bl⟩⟩
                  ·rw [if_neg c27] at H
                   have c27b0 : decide (2 < (tt483.size : Int)) = false := decide_eq_false c27; have c27b1 : decide (2 < tt483.size) = false := decide_eq_false (by omega); clear c27; (first | rw [c27b0] | (simp only [qi, qj]; rw [c27b0]) | skip); by_cases c28 : (tt483.size : Int) = 2
                   ·rw [if_pos c28] at H
                    have c28b0 : ((tt483.size : Int) == 2) = true := beq_iff_eq.mpr c28; have c28b1 : ((tt483.size : Int) != 2) = false := bne_eq_false_iff_eq.mpr c28; clear c28; by_cases c29 : 0 < (tt483.size : Int)
                    ·rw [if_pos c29] at H
                     have c29b0 : decide (0 < (tt483.size : Int)) = true := decide_eq_true c29; have c29b1 : decide (0 < tt483.size) = true := decide_eq_true (by omega); clear c29; have H' := AM H; clear H; go_wp2_with (first | ((with_reducible refine gate_callee (f := 28) rfl ?_); refine goesL_ (some 51) rfl rfl Tryz.func28 (by kernel_rfl) rfl #[.string tt483] rfl (by (try simp only [qT, qC, qN]); first | done | (simp only [hji16]; rfl) | rfl | (simp only [qD, qU]; rfl)) ?_; (with_reducible refine (targumref4_Digits.calls kj19 tt483 true _ A25.out).mono ?_); rintro e w' ⟨rfl, ⟨nd, rfl⟩⟩; refine ⟨_, rfl, ?_⟩; have p30 : 0 ≤ (0 : Int) := (by omega); have q30 : 0 < tt483.size := (by have : (0 : Int) < (tt483.size : Int) := od; omega); have hx30 : ∀ h : 0 < tt483.size, ((tt483[0]'h).toNat : Int) = bt tt483 0 := bt_at tt483 0; clear p30; have qi30 : (0 < (tt483.size : Int)) = True := eq_true (od); replace q30 := eq_true q30)); go_meet
                     case rel => exact ⟨_, (decide ((bt tt483 0) > 53)), (by first | rfl | (simp; done) | (simp only [← hji16] <;> (first | rfl | simp)) | (simp [*]; done)), H', ⟨by have := HJ2.out; have := HK2.out; have := HJ19.out; first | omega | exact Nat.le_refl _⟩, ⟨bl⟩⟩
                    ·rw [if_neg c29] at H
                     exact absurd H (by simp)
                   ·rw [if_neg c28] at H
                    have c28b0 : ((tt483.size : Int) == 2) = false := beq_eq_false_iff_ne.mpr c28; have c28b1 : ((tt483.size : Int) != 2) = true := bne_iff_ne.mpr c28; have H' := AM H; clear H; go_wp2_with (first | ((with_reducible refine gate_callee (f := 28) rfl ?_); refine goesL_ (some 51) rfl rfl Tryz.func28 (by kernel_rfl) rfl #[.string tt483] rfl (by (try simp only [qT, qC, qN]); first | done | (simp only [hji16]; rfl) | rfl | (simp only [qD, qU]; rfl)) ?_; (with_reducible refine (targumref4_Digits.calls kj19 tt483 true _ A25.out).mono ?_); rintro e w' ⟨rfl, ⟨nd, rfl⟩⟩; refine ⟨_, rfl, ?_⟩)); go_meet
                    case rel => exact ⟨_, (false), rq, H', ⟨by have := HJ2.out; have := HK2.out; have := HJ19.out; first | omega | exact Nat.le_refl _⟩, ⟨bl⟩⟩
                 ·replace c26 := Bool.eq_false_iff.mpr c26
                  subst c26; have H1 : (targumref6_sixty.j3 kj19 a0 x4_2 x7_2 tt483 x9_19 true) = some (r1, r2) := by rw [if_neg (show ¬ (false = true) by decide)] at H; exact H
                  clear H; have H := H1; clear H1; have H' := AM H; clear H; go_wp2_with (first | ((with_reducible refine gate_callee (f := 28) rfl ?_); refine goesL_ (some 51) rfl rfl Tryz.func28 (by kernel_rfl) rfl #[.string tt483] rfl (by (try simp only [qT, qC, qN]); first | done | (simp only [hji16]; rfl) | rfl | (simp only [qD, qU]; rfl)) ?_; (with_reducible refine (targumref4_Digits.calls kj19 tt483 false _ A25.out).mono ?_); rintro e w' ⟨rfl, ⟨nd, rfl⟩⟩; refine ⟨_, rfl, ?_⟩)); go_meet
                  case rel => exact ⟨_, (true), rq, H', ⟨by have := HJ2.out; have := HK2.out; have := HJ19.out; first | omega | exact Nat.le_refl _⟩, ⟨bl⟩⟩
                case rest =>
                 clear HC24; try clear c8; try clear c9; try clear c9b0; try clear c9b1; try clear c10; try clear c10b0; try clear c10b1; try clear c12; try clear c15; try clear c15b0; try clear c17; try clear c17b0; try clear c17b1; try clear c18; try clear c18b0; try clear c18b1; try clear c22; try clear c22b0; try clear c22b1; try clear c23; try clear c23b0; try clear c23b1
                 obtain ⟨kq, x67_23, rfl, HA, HJ23, HB⟩ := hcut; cases kq with
                 | zero => exact absurd HA.out (by simp [targumref6_sixty.j3])
                 | succ kj23 =>
                  have H := HA.out; clear HA; simp only [targumref6_sixty.j3] at H; by_cases c31 : x67_23 = true
                  ·subst c31
                   have H1 : (some ((⟨#[]⟩ : ByteArray), false)) = some (r1, r2) := by rw [if_pos rfl] at H; exact H
                   clear H; have H := H1; clear H1; simp only [Option.some.injEq, Prod.mk.injEq] at H; obtain ⟨rfl, rfl⟩ := H; go_wp2; go_ret2
                   exact ⟨by first | rfl | (simp [errW_none, errW_some] <;> rfl) | (simp only [← hji16]; first | rfl | (simp [errW_none, errW_some] <;> rfl)) | (simp [*, errW_none, errW_some] <;> rfl), bl⟩
                  ·replace c31 := Bool.eq_false_iff.mpr c31
                   subst c31; have H1 : (targumref6_sixty.l1 kj23 a0 x4_2 x7_2 tt483 x9_19 0 0) = some (r1, r2) := by rw [if_neg (show ¬ (false = true) by decide)] at H; exact H
                   clear H; have H := H1; clear H1; have H' := AM H; clear H; go_wp2; go_loopg [10, 11] kj23 (fun kq v10 v11 w' => ∃ (x10_5 : Int) (x11_5 : Int), v10 = .int .i64 x10_5 ∧ v11 = .int .i64 x11_5 ∧ Aside0 (targumref6_sixty.l1 kq a0 x4_2 x7_2 tt483 x9_19 x10_5 x11_5 = some (r1, r2)) ∧ Aside0 (kq ≤ kj23) ∧ Aside0 (Below w.heap.size w w'))
                   case atStart => exact ⟨(0), (0), rq, rq, H', ⟨Nat.le_refl _⟩, ⟨bl⟩⟩
                   case round =>
                    clear H'; try clear c8; try clear c9; try clear c9b0; try clear c9b1; try clear c10; try clear c10b0; try clear c10b1; try clear c12; try clear c15; try clear c15b0; try clear c17; try clear c17b0; try clear c17b1; try clear c18; try clear c18b0; try clear c18b1; try clear c22; try clear c22b0; try clear c22b1; try clear c23; try clear c23b0; try clear c23b1; try clear c31
                    obtain ⟨x10_5, x11_5, rfl, rfl, HA, HK5, HB⟩ := hrel; cases gk with
                    | zero => exact absurd HA.out (by simp [targumref6_sixty.l1])
                    | succ k5 =>
                     have H := HA.out; clear HA; simp only [targumref6_sixty.l1] at H; by_cases c32 : x11_5 < (tt483.size : Int)
                     ·rw [if_pos c32] at H
                      have c32b0 : decide (x11_5 < (tt483.size : Int)) = true := decide_eq_true c32; clear c32; by_cases c33 : 0 ≤ x11_5
                      ·rw [if_pos c33] at H
                       have c33b0 : decide (0 ≤ x11_5) = true := decide_eq_true c33; clear c33; have H' := AM H; clear H; have p34 : 0 ≤ (x11_5 : Int) := od; have q34 : x11_5 < (tt483.size : Int) := od; have hx34 := bt_at tt483 x11_5; replace p34 := eq_true p34; replace q34 := eq_true q34; go_wp2; go_roundg k5
                       case measure => have := HJ2.out; have := HK2.out; have := HJ19.out; have := HJ23.out; have := HK5.out; omega
                       case rel => exact ⟨(wrap64 ((wrap64 (10 * x10_5)) + (((bt tt483 x11_5) - 48) % 256))), (wrap64 (x11_5 + 1)), (by first | rfl | (simp; done) | (simp only [← hji16] <;> (first | rfl | simp)) | (simp [*]; done)), rq, H', ⟨by have := HJ2.out; have := HK2.out; have := HJ19.out; have := HJ23.out; have := HK5.out; omega⟩, ⟨bl⟩⟩
                      ·rw [if_neg c33] at H
                       exact absurd H (by simp)
                     ·rw [if_neg c32] at H
                      have c32b0 : decide (x11_5 < (tt483.size : Int)) = false := decide_eq_false c32; clear c32; replace H := Option.bind_eq_some_iff.mp H; obtain ⟨t280, A350, H⟩ := H; replace H : (targumref6_sixty.l0 k5 a0 (wrap64 ((wrap64 (x4_2 + 1)) + x9_19)) t280) = some (r1, r2) := H; have A35 := AM A350; clear A350; have H' := AM H; clear H; go_wp2_with (first | ((with_reducible refine gate_callee (f := 47) rfl ?_); refine goesL_ (some 84) rfl rfl Tryz.func47 (by kernel_rfl) rfl #[.string x7_2, .int .i64 60, .int .i64 x10_5] rfl am ?_; (with_reducible refine (targumref4_MulAdd.calls k5 x7_2 60 x10_5 t280 _ A35.out).mono ?_); rintro e w36 ⟨rfl, hb⟩; refine ⟨_, rfl, ?_⟩; replace HB := AM (below_step bl hb); (try clear hb))); go_roundg k5
                      case measure => have := HJ2.out; have := HK2.out; have := HJ19.out; have := HJ23.out; have := HK5.out; omega
                      case rel => exact ⟨(wrap64 ((wrap64 (x4_2 + 1)) + x9_19)), (t280), rq, rq, H', ⟨by have := HJ2.out; have := HK2.out; have := HJ19.out; have := HJ23.out; have := HK5.out; omega⟩, ⟨bl⟩⟩
               ·rw [if_neg c23] at H
                exact absurd H (by simp)
              ·rw [if_neg c22] at H
               exact absurd H (by simp)
           ·rw [if_neg c18] at H
            exact absurd H (by simp)
          ·rw [if_neg c17] at H
           exact absurd H (by simp)
         ·rw [if_neg c15] at H
          have c15b0 : decide (x4_2 < (a0.size : Int)) = false := decide_eq_false c15; clear c15; simp only [Option.some.injEq, Prod.mk.injEq] at H; obtain ⟨rfl, rfl⟩ := H; go_wp2; go_ret2
          exact ⟨ew, bl⟩
      ·replace c12 := Bool.eq_false_iff.mpr c12
       subst c12; have H1 : (some ((⟨#[]⟩ : ByteArray), false)) = some (r1, r2) := by rw [if_neg (show ¬ (false = true) by decide)] at H; exact H
       clear H; have H := H1; clear H1; simp only [Option.some.injEq, Prod.mk.injEq] at H; obtain ⟨rfl, rfl⟩ := H; go_wp2_with (first | ((with_reducible refine gate_callee (f := 25) rfl ?_); refine goesL_ (some 26) rfl rfl Tryz.func25 (by kernel_rfl) rfl #[.string (a0.extract 0 (t273 : Int).toNat), .int .i64 10] rfl am ?_; (with_reducible refine (targumref6_bare.calls kj2 (a0.extract 0 (t273 : Int).toNat) 10 t275 false _ A11.out).mono ?_); rintro e w37 ⟨rfl, hb⟩; refine ⟨_, rfl, ?_⟩; replace HB := AM (below_step bl hb); (try clear hb))); go_ret2
       exact ⟨ew, bl⟩
     ·rw [if_neg c10] at H
      exact absurd H (by simp)
    ·rw [if_neg c9] at H
     exact absurd H (by simp)

end Go.Proofs.YtkijneohhilboaaGreatDoor.PT
