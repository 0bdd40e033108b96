/- Written by this session's own program (xprint, made over the kit's print): Lean functions with the same answers as the Go functions, and the proofs of that. Not trusted: Lean checks it. -/
import Derived.Test.YtkijneohhilboaaGreatDoorPTx0
import Derived.Test.YtkijneohhilboaaGreatDoorPTx1
import Derived.Test.YtkijneohhilboaaGreatDoorPTx6
import Derived.Test.YtkijneohhilboaaGreatDoorPTx7
import Derived.Test.YtkijneohhilboaaGreatDoorPTx8
import Derived.Test.YtkijneohhilboaaGreatDoorPTx16
import Derived.Test.YtkijneohhilboaaGreatDoorXW
import Derived.Test.YtkijneohhilboaaGreatDoorXZ
namespace Go.Proofs.YtkijneohhilboaaGreatDoor.PT
open Go.Proofs.YtkijneohhilboaaGreatDoor.XZ
open Go.Proofs.YtkijneohhilboaaGreatDoor.XW Go.RowKit Go.Proofs.YtkijneohhilboaaGreatDoorW.PrintWords Go.Proofs.YtkijneohhilboaaGreatDoorW.PrintLast Go.Proofs.YtkijneohhilboaaGreatDoorW.PrintMore
attribute [local go_sem] max2_int min2_int max_two min_two max_three min_three max_four min_four   -- for this text's walks alone
set_option linter.unusedVariables false
set_option linter.unusedSimpArgs false

attribute [local go_sem high] eqA26
/-! ### float11_Is: function 10 -/
def float11_Is.f (k : Nat) (a0 : ByteArray) : Option (Bool) := (float11_Form.f k a0).bind fun t325 => (some (decide (t325 > 0)))
theorem float11_Is.mono : ∀ a0 k, LeO (float11_Is.f k a0) (float11_Is.f (k + 1) a0) := by
 intro a0 k
 unfold float11_Is.f
 repeat' first | (with_reducible exact float11_Form.mono _ _) | (with_reducible exact LeO.refl _) | (with_reducible exact LeO.none _) | (with_reducible refine LeO.ite ?_ ?_) | (with_reducible refine LeO.bind ?_ (fun _ => ?_)) | exact float11_Form.mono _ _ | exact LeO.none _ | refine LeO.ite ?_ ?_ | refine LeO.bind ?_ (fun _ => ?_)
set_option maxHeartbeats 8000000 in
set_option maxRecDepth 100000 in
theorem float11_Is.calls (k : Nat) (a0 : ByteArray) (r : Bool) (w : World) (h : float11_Is.f k a0 = some r) :
  Calls Tryz.prog 10 #[.string a0] w fun e w' => e = .returned (.bool r) ∧ Below w.heap.size w w' := by
 have HB := AM (Below.refl w.heap.size w)
 have H : ((float11_Form.f k a0).bind fun t325 => (some (decide (t325 > 0)))) = some r := h
 clear h
 replace H := Option.bind_eq_some_iff.mp H
 obtain ⟨t325, A20, H⟩ := H
 replace H : (some (decide (t325 > 0))) = some r := H
 have A2 := AM A20
 clear A20
 obtain rfl := Option.some.inj H
 go_enter Tryz.func10, Tryz.ntmps10
 go_wp2_with (first | ((with_reducible refine gate_callee (f := 11) rfl ?_); refine goesL_ (some 4) rfl rfl Tryz.func11 (by kernel_rfl) rfl #[.string a0] rfl am ?_; (with_reducible refine (float11_Form.calls k a0 t325 _ A2.out).mono ?_); rintro e w3 ⟨rfl, hb⟩; refine ⟨_, rfl, ?_⟩; replace HB := AM (below_step bl hb); (try clear hb)))
 go_ret
 exact ⟨ew, bl⟩

/-! ### targumlaw7_Float11Tells: function 3 -/
mutual
def targumlaw7_Float11Tells.j0 : Nat → ByteArray → List Int → Bool → Option (Bool)
 | 0, _, _, _ => none
 | k + 1, x0, x1, x22 => if x22 = true then (some true) else (targumlaw7_Float11Tells.l0 k x0 x1 (⟨#[]⟩ : ByteArray) 0)
def targumlaw7_Float11Tells.l0 : Nat → ByteArray → List Int → ByteArray → Int → Option (Bool)
 | 0, _, _, _, _ => none
 | k + 1, x0, x1, x5, x6 => if x6 < (x1.length : Int) then (if 0 ≤ x6 then (if 0 ≤ (Int.tmod (wrap64 (rd x1 x6)) 25) then (if (Int.tmod (wrap64 (rd x1 x6)) 25) ≤ (wrap64 ((Int.tmod (wrap64 (rd x1 x6)) 25) + 1)) then (if (wrap64 ((Int.tmod (wrap64 (rd x1 x6)) 25) + 1)) ≤ 25 then (if x5.size + ((⟨#[48, 49, 50, 51, 52, 53, 54, 55, 56, 57, 95, 58, 46, 101, 43, 45, 69, 46, 97, 73, 78, 70, 105, 110, 102]⟩ : ByteArray).extract ((Int.tmod (wrap64 (rd x1 x6)) 25) : Int).toNat ((wrap64 ((Int.tmod (wrap64 (rd x1 x6)) 25) + 1)) : Int).toNat).size ≤ 9223372036854775807 then (targumlaw7_Float11Tells.l0 k x0 x1 (x5 ++ ((⟨#[48, 49, 50, 51, 52, 53, 54, 55, 56, 57, 95, 58, 46, 101, 43, 45, 69, 46, 97, 73, 78, 70, 105, 110, 102]⟩ : ByteArray).extract ((Int.tmod (wrap64 (rd x1 x6)) 25) : Int).toNat ((wrap64 ((Int.tmod (wrap64 (rd x1 x6)) 25) + 1)) : Int).toNat)) (wrap64 (x6 + 1))) else (none)) else (none)) else (none)) else (none)) else (none)) else (if 1 + x5.size ≤ 9223372036854775807 then (if 2 + x5.size ≤ 9223372036854775807 then (if 4 + x5.size ≤ 9223372036854775807 then (if 5 + x5.size ≤ 9223372036854775807 then ((some (([x0, x5, (⟨#[46]⟩ : ByteArray) ++ x5, (⟨#[49, 46]⟩ : ByteArray) ++ x5, (⟨#[45, 49, 58, 50]⟩ : ByteArray) ++ x5, (⟨#[49, 46, 53, 101, 43]⟩ : ByteArray) ++ x5, (⟨#[43, 46]⟩ : ByteArray) ++ x5] : List ByteArray) : List ByteArray)).bind fun y329 => (targumlaw7_Float11Tells.l1 k y329 (y329.length : Int) 0)) else (none)) else (none)) else (none)) else (none))
def targumlaw7_Float11Tells.l1 : Nat → List ByteArray → Int → Int → Option (Bool)
 | 0, _, _, _ => none
 | k + 1, x57, x58, x59 => if x59 < x58 then (if 0 ≤ x59 then (if x59 < (x57.length : Int) then ((float11_Of.f k (rdOf ByteArray.empty x57 x59)).bind fun bt333 => ((targumref6_Float11.f k (rdOf ByteArray.empty x57 x59)).bind fun bt339 => (if (!(bt333.1 == bt339.1) || (!(bt333.2.1 == bt339.2.1) || (!(bt333.2.2.1.toList == bt339.2.2.1.toList) || (!(bt333.2.2.2.1.toList == bt339.2.2.2.1.toList))))) = true then (some false) else (if (bt333.2.2.2.2 != (decide (bt339.2.2.2.2 > 0))) = true then (some false) else ((float11_Is.f k (rdOf ByteArray.empty x57 x59)).bind fun t345 => (if (t345 != bt333.2.2.2.2) = true then (some false) else ((float11_Form.f k (rdOf ByteArray.empty x57 x59)).bind fun t346 => (if t346 = bt339.2.2.2.2 then (targumlaw7_Float11Tells.l1 k x57 x58 (wrap64 (x59 + 1))) else (some false))))))))) else (none)) else (none)) else (some true)
end
def targumlaw7_Float11Tells.f (k : Nat) (a0 : ByteArray) (l1 : List Int) : Option (Bool) := (targumlaw7_known.f k).bind fun t326 => (if t326 = true then (if (a0.size : Int) > 60 then (targumlaw7_Float11Tells.j0 k a0 l1 true) else (targumlaw7_Float11Tells.j0 k a0 l1 (decide ((l1.length : Int) > 40)))) else (some false))
theorem targumlaw7_Float11Tells.mono_l : ∀ k, (∀ y0 y1 y2, LeO (targumlaw7_Float11Tells.j0 k y0 y1 y2) (targumlaw7_Float11Tells.j0 (k + 1) y0 y1 y2)) ∧ (∀ y0 y1 y2 y3, LeO (targumlaw7_Float11Tells.l0 k y0 y1 y2 y3) (targumlaw7_Float11Tells.l0 (k + 1) y0 y1 y2 y3)) ∧ (∀ y0 y1 y2, LeO (targumlaw7_Float11Tells.l1 k y0 y1 y2) (targumlaw7_Float11Tells.l1 (k + 1) y0 y1 y2))
 | 0 => ⟨fun _ _ _ r h => by simp [targumlaw7_Float11Tells.j0] at h, fun _ _ _ _ r h => by simp [targumlaw7_Float11Tells.l0] at h, fun _ _ _ r h => by simp [targumlaw7_Float11Tells.l1] at h⟩
 | k + 1 => by
  obtain ⟨ih0, ih1, ih2⟩ := targumlaw7_Float11Tells.mono_l k
  refine ⟨?_, ?_, ?_⟩
  ·intro y0 y1 y2
   unfold targumlaw7_Float11Tells.j0
   repeat' first | (with_reducible exact ih0 _ _ _) | (with_reducible exact ih1 _ _ _ _) | (with_reducible exact ih2 _ _ _) | (with_reducible exact float11_Form.mono _ _) | (with_reducible exact float11_Is.mono _ _) | (with_reducible exact float11_Of.mono _ _) | (with_reducible exact targumlaw7_known.mono _) | (with_reducible exact targumref6_Float11.mono _ _) | (with_reducible exact LeO.refl _) | (with_reducible exact LeO.none _) | (with_reducible refine LeO.ite ?_ ?_) | (with_reducible refine LeO.bind ?_ (fun _ => ?_)) | exact ih0 _ _ _ | exact ih1 _ _ _ _ | exact ih2 _ _ _ | exact float11_Form.mono _ _ | exact float11_Is.mono _ _ | exact float11_Of.mono _ _ | exact targumlaw7_known.mono _ | exact targumref6_Float11.mono _ _ | exact LeO.none _ | refine LeO.ite ?_ ?_ | refine LeO.bind ?_ (fun _ => ?_)
  ·intro y0 y1 y2 y3
   unfold targumlaw7_Float11Tells.l0
   repeat' first | (with_reducible exact ih0 _ _ _) | (with_reducible exact ih1 _ _ _ _) | (with_reducible exact ih2 _ _ _) | (with_reducible exact float11_Form.mono _ _) | (with_reducible exact float11_Is.mono _ _) | (with_reducible exact float11_Of.mono _ _) | (with_reducible exact targumlaw7_known.mono _) | (with_reducible exact targumref6_Float11.mono _ _) | (with_reducible exact LeO.refl _) | (with_reducible exact LeO.none _) | (with_reducible refine LeO.ite ?_ ?_) | (with_reducible refine LeO.bind ?_ (fun _ => ?_)) | exact ih0 _ _ _ | exact ih1 _ _ _ _ | exact ih2 _ _ _ | exact float11_Form.mono _ _ | exact float11_Is.mono _ _ | exact float11_Of.mono _ _ | exact targumlaw7_known.mono _ | exact targumref6_Float11.mono _ _ | exact LeO.none _ | refine LeO.ite ?_ ?_ | refine LeO.bind ?_ (fun _ => ?_)
  ·intro y0 y1 y2
   unfold targumlaw7_Float11Tells.l1
   repeat' first | (with_reducible exact ih0 _ _ _) | (with_reducible exact ih1 _ _ _ _) | (with_reducible exact ih2 _ _ _) | (with_reducible exact float11_Form.mono _ _) | (with_reducible exact float11_Is.mono _ _) | (with_reducible exact float11_Of.mono _ _) | (with_reducible exact targumlaw7_known.mono _) | (with_reducible exact targumref6_Float11.mono _ _) | (with_reducible exact LeO.refl _) | (with_reducible exact LeO.none _) | (with_reducible refine LeO.ite ?_ ?_) | (with_reducible refine LeO.bind ?_ (fun _ => ?_)) | exact ih0 _ _ _ | exact ih1 _ _ _ _ | exact ih2 _ _ _ | exact float11_Form.mono _ _ | exact float11_Is.mono _ _ | exact float11_Of.mono _ _ | exact targumlaw7_known.mono _ | exact targumref6_Float11.mono _ _ | exact LeO.none _ | refine LeO.ite ?_ ?_ | refine LeO.bind ?_ (fun _ => ?_)
theorem targumlaw7_Float11Tells.mono : ∀ a0 a1 k, LeO (targumlaw7_Float11Tells.f k a0 a1) (targumlaw7_Float11Tells.f (k + 1) a0 a1) := by
 intro a0 a1 k
 obtain ⟨ih0, ih1, ih2⟩ := targumlaw7_Float11Tells.mono_l k
 unfold targumlaw7_Float11Tells.f
 repeat' first | (with_reducible exact ih0 _ _ _) | (with_reducible exact ih1 _ _ _ _) | (with_reducible exact ih2 _ _ _) | (with_reducible exact float11_Form.mono _ _) | (with_reducible exact float11_Is.mono _ _) | (with_reducible exact float11_Of.mono _ _) | (with_reducible exact targumlaw7_known.mono _) | (with_reducible exact targumref6_Float11.mono _ _) | (with_reducible exact LeO.refl _) | (with_reducible exact LeO.none _) | (with_reducible refine LeO.ite ?_ ?_) | (with_reducible refine LeO.bind ?_ (fun _ => ?_)) | exact ih0 _ _ _ | exact ih1 _ _ _ _ | exact ih2 _ _ _ | exact float11_Form.mono _ _ | exact float11_Is.mono _ _ | exact float11_Of.mono _ _ | exact targumlaw7_known.mono _ | exact targumref6_Float11.mono _ _ | exact LeO.none _ | refine LeO.ite ?_ ?_ | refine LeO.bind ?_ (fun _ => ?_)
set_option maxHeartbeats 8000000 in
set_option maxRecDepth 100000 in
theorem targumlaw7_Float11Tells.calls (k : Nat) (a0 : ByteArray) (A1 : Option Addr) (c1 : Nat) (l1 : List Int) (r : Bool) (w : World) (hr1 : Kd.C (Kd.int .u8) w A1 l1.length l1) (hc1 : l1.length ≤ c1) (hG : Go.Proofs.YtkijneohhilboaaGreatDoor.PTT.Tabs w) (h : targumlaw7_Float11Tells.f k a0 l1 = some r) :
  Calls Tryz.prog 3 #[.string a0, .slice A1 l1.length c1] w fun e w' => e = .returned (.bool r) ∧ Below w.heap.size w w' := by
 have hu26 := Tryz.underlying26
 have HG := AM hG
 clear hG
 have HR1 := AM hr1
 have HC1 := AM hc1
 clear hr1 hc1
 have HB := AM (Below.refl w.heap.size w)
 have H : ((targumlaw7_known.f k).bind fun t326 => (if t326 = true then (if (a0.size : Int) > 60 then (targumlaw7_Float11Tells.j0 k a0 l1 true) else (targumlaw7_Float11Tells.j0 k a0 l1 (decide ((l1.length : Int) > 40)))) else (some false))) = some r := h
 clear h
 replace H := Option.bind_eq_some_iff.mp H
 obtain ⟨t326, A30, H⟩ := H
 replace H : (if t326 = true then (if (a0.size : Int) > 60 then (targumlaw7_Float11Tells.j0 k a0 l1 true) else (targumlaw7_Float11Tells.j0 k a0 l1 (decide ((l1.length : Int) > 40)))) else (some false)) = some r := H
 have A3 := AM A30
 clear A30
 by_cases c4 : t326 = true
 ·subst c4
  have H1 : (if (a0.size : Int) > 60 then (targumlaw7_Float11Tells.j0 k a0 l1 true) else (targumlaw7_Float11Tells.j0 k a0 l1 (decide ((l1.length : Int) > 40)))) = some r := by rw [if_pos rfl] at H; exact H
  clear H
  have H := H1
  clear H1
  have HC5 := AM H
  clear H
  go_enter Tryz.func3, Tryz.ntmps3
  go_upto_region 3 with (first | (go_at_call 7; (try (rename_i hK_; simp only [List.append] at hK_)); (with_reducible refine (targumlaw7_known.calls k  true _ ?side1 A3.out).mono ?_); (case side1 => exact Go.Proofs.YtkijneohhilboaaGreatDoor.PTT.Tabs_below HG.out bl); rintro e w6 ⟨rfl, hb⟩; replace HB := AM (below_step bl hb); (try clear hb)))
  (try simp only [Act.put, qI, qz, qs])
  go_cut [22] (fun v22 wc => ∃ (kq : Nat) (x22_4 : Bool), v22 = .bool x22_4 ∧ Aside0 (targumlaw7_Float11Tells.j0 kq a0 l1 x22_4 = some r) ∧ Aside0 (kq ≤ k) ∧ Aside0 (Below w.heap.size w wc))
  case first =>
   have H := HC5.out
   clear HC5
   by_cases c7 : (a0.size : Int) > 60
   ·rw [if_pos c7] at H
    have c7b0 : decide (60 < (a0.size : Int)) = true := decide_eq_true c7; have c7b1 : decide (60 < a0.size) = true := decide_eq_true (by omega); clear c7; (first | rw [c7b0] | (simp only [qi, qj]; rw [c7b0]) | skip); have H' := AM H; clear H; go_wp2; repeat (go_quiet (fail); try go_wp2)
    go_meet
    case rel => exact ⟨_, (true), rq, H', ⟨by first | omega | exact Nat.le_refl _⟩, ⟨bl⟩⟩
   ·rw [if_neg c7] at H
    have c7b0 : decide (60 < (a0.size : Int)) = false := decide_eq_false c7; have c7b1 : decide (60 < a0.size) = false := decide_eq_false (by omega); clear c7; (first | rw [c7b0] | (simp only [qi, qj]; rw [c7b0]) | skip); have H' := AM H; clear H; go_wp2; repeat (go_quiet (fail); try go_wp2)
    go_meet
    case rel => exact ⟨_, (decide ((l1.length : Int) > 40)), rq, H', ⟨by first | omega | exact Nat.le_refl _⟩, ⟨bl⟩⟩
  case rest =>
   clear HC5
   try clear c1; try clear c4
   obtain ⟨kq, x22_4, rfl, HA, HJ4, HB⟩ := hcut
   cases kq with
   | zero => exact absurd HA.out (by simp [targumlaw7_Float11Tells.j0])
   | succ kj4 =>
    have H := HA.out; clear HA; simp only [targumlaw7_Float11Tells.j0] at H; by_cases c8 : x22_4 = true
    ·subst c8
     have H1 : (some true) = some r := by rw [if_pos rfl] at H; exact H
     clear H; have H := H1; clear H1; obtain rfl := Option.some.inj H; go_wp2; repeat (go_quiet (fail); try go_wp2)
     go_ret
     exact ⟨ew, bl⟩
    ·replace c8 := Bool.eq_false_iff.mpr c8
     subst c8; have H1 : (targumlaw7_Float11Tells.l0 kj4 a0 l1 (⟨#[]⟩ : ByteArray) 0) = some r := by rw [if_neg (show ¬ (false = true) by decide)] at H; exact H
     clear H; have H := H1; clear H1; have H' := AM H; clear H; go_wp2; repeat (go_quiet (fail); try go_wp2)
     go_loopg [5, 6] kj4 (fun kq v5 v6 w' => ∃ (x5_2 : ByteArray) (x6_2 : Int), v5 = .string x5_2 ∧ v6 = .int .i64 x6_2 ∧ Aside0 (targumlaw7_Float11Tells.l0 kq a0 l1 x5_2 x6_2 = some r) ∧ Aside0 (kq ≤ kj4) ∧ Aside0 (Below w.heap.size w w'))
     case atStart => exact ⟨((⟨#[]⟩ : ByteArray)), (0), rq, rq, H', ⟨Nat.le_refl _⟩, ⟨bl⟩⟩
     case round =>
      clear H'; try clear c1; try clear c4; try clear c8
      obtain ⟨x5_2, x6_2, rfl, rfl, HA, HK2, HB⟩ := hrel; cases gk with
      | zero => exact absurd HA.out (by simp [targumlaw7_Float11Tells.l0])
      | succ k2 =>
       have H := HA.out; clear HA; simp only [targumlaw7_Float11Tells.l0] at H; by_cases c9 : x6_2 < (l1.length : Int)
       ·rw [if_pos c9] at H
        have c9b0 : decide (x6_2 < (l1.length : Int)) = true := decide_eq_true c9; clear c9; by_cases c10 : 0 ≤ x6_2
        ·rw [if_pos c10] at H
         have c10b0 : decide (0 ≤ x6_2) = true := decide_eq_true c10; clear c10; obtain ⟨ji11, hji11⟩ : ∃ j_ : Int, (Int.tmod (wrap64 (rd l1 x6_2)) 25) = j_ := ⟨_, rfl⟩; replace H : (if 0 ≤ (ji11) then (if (ji11) ≤ (wrap64 ((ji11) + 1)) then (if (wrap64 ((ji11) + 1)) ≤ 25 then (if x5_2.size + ((⟨#[48, 49, 50, 51, 52, 53, 54, 55, 56, 57, 95, 58, 46, 101, 43, 45, 69, 46, 97, 73, 78, 70, 105, 110, 102]⟩ : ByteArray).extract ((ji11) : Int).toNat ((wrap64 ((ji11) + 1)) : Int).toNat).size ≤ 9223372036854775807 then (targumlaw7_Float11Tells.l0 k2 a0 l1 (x5_2 ++ ((⟨#[48, 49, 50, 51, 52, 53, 54, 55, 56, 57, 95, 58, 46, 101, 43, 45, 69, 46, 97, 73, 78, 70, 105, 110, 102]⟩ : ByteArray).extract ((ji11) : Int).toNat ((wrap64 ((ji11) + 1)) : Int).toNat)) (wrap64 (x6_2 + 1))) else (none)) else (none)) else (none)) else (none)) = some r := by first | (rw [hji11] at H; exact H) | (simp only [hji11] at H ⊢; exact H)
         by_cases c12 : 0 ≤ (ji11)
         ·rw [if_pos c12] at H
          have c12b0 := eq_true c12; have c12b1 : decide (0 ≤ (ji11)) = true := decide_eq_true c12; clear c12; by_cases c13 : (ji11) ≤ (wrap64 ((ji11) + 1))
          ·rw [if_pos c13] at H
           have c13b0 := eq_true c13; have c13b1 : decide ((ji11) ≤ (wrap64 ((ji11) + 1))) = true := decide_eq_true c13; by_cases c14 : (wrap64 ((ji11) + 1)) ≤ 25
           ·rw [if_pos c14] at H
            have c14b0 := eq_true c14; have c14b1 : decide ((wrap64 ((ji11) + 1)) ≤ 25) = true := decide_eq_true c14; by_cases c15 : x5_2.size + ((⟨#[48, 49, 50, 51, 52, 53, 54, 55, 56, 57, 95, 58, 46, 101, 43, 45, 69, 46, 97, 73, 78, 70, 105, 110, 102]⟩ : ByteArray).extract ((ji11) : Int).toNat ((wrap64 ((ji11) + 1)) : Int).toNat).size ≤ 9223372036854775807
            ·rw [if_pos c15] at H
             have c15b0 := eq_true c15; have c15b1 : decide (x5_2.size + ((⟨#[48, 49, 50, 51, 52, 53, 54, 55, 56, 57, 95, 58, 46, 101, 43, 45, 69, 46, 97, 73, 78, 70, 105, 110, 102]⟩ : ByteArray).extract ((ji11) : Int).toNat ((wrap64 ((ji11) + 1)) : Int).toNat).size ≤ 9223372036854775807) = true := decide_eq_true c15; try have c15b2 : (9223372036854775807 < x5_2.size + ((⟨#[48, 49, 50, 51, 52, 53, 54, 55, 56, 57, 95, 58, 46, 101, 43, 45, 69, 46, 97, 73, 78, 70, 105, 110, 102]⟩ : ByteArray).extract ((ji11) : Int).toNat ((wrap64 ((ji11) + 1)) : Int).toNat).size) = False := eq_false (Nat.not_lt.2 c15)
             have H' := AM H; clear H; have p327 : 0 ≤ (x6_2 : Int) := od; have q327 : x6_2 < (l1.length : Int) := od; obtain ⟨ad327, e327, hx327_0⟩ := Kd.at_int HR1.out x6_2 p327 q327; cases e327; replace hx327_0 := (HB.out.cell (World.block_lt_of_cell? w _ hx327_0)).trans hx327_0; replace p327 := eq_true p327; replace q327 := eq_true q327; have p328 : 0 ≤ (x6_2 : Int) := od; have q328 : x6_2 < (l1.length : Int) := od; obtain ⟨ad328, e328, hx328_0⟩ := Kd.at_int HR1.out x6_2 p328 q328; obtain rfl : ad327 = ad328 := (by injection e328); replace hx328_0 := (HB.out.cell (World.block_lt_of_cell? w _ hx328_0)).trans hx328_0; replace p328 := eq_true p328; replace q328 := eq_true q328; go_wp2; repeat (go_quiet (fail); try go_wp2)
             go_roundg k2
             case measure => have := HJ4.out; have := HK2.out; omega
             case rel => exact ⟨(x5_2 ++ ((⟨#[48, 49, 50, 51, 52, 53, 54, 55, 56, 57, 95, 58, 46, 101, 43, 45, 69, 46, 97, 73, 78, 70, 105, 110, 102]⟩ : ByteArray).extract ((ji11) : Int).toNat ((wrap64 ((ji11) + 1)) : Int).toNat)), (wrap64 (x6_2 + 1)), (by first | rfl | (simp; done) | (simp only [← hji11] <;> (first | rfl | simp)) | (simp [*]; done)), rq, H', ⟨by have := HJ4.out; have := HK2.out; omega⟩, ⟨bl⟩⟩
            ·rw [if_neg c15] at H
             exact absurd H (by simp)
           ·rw [if_neg c14] at H
            exact absurd H (by simp)
          ·rw [if_neg c13] at H
           exact absurd H (by simp)
         ·rw [if_neg c12] at H
          exact absurd H (by simp)
        ·rw [if_neg c10] at H
         exact absurd H (by simp)
       ·rw [if_neg c9] at H
        have c9b0 : decide (x6_2 < (l1.length : Int)) = false := decide_eq_false c9; clear c9; by_cases c16 : 1 + x5_2.size ≤ 9223372036854775807
        ·rw [if_pos c16] at H
         have c16b0 := eq_true c16; have c16b1 : decide (1 + x5_2.size ≤ 9223372036854775807) = true := decide_eq_true c16; try have c16b2 : (9223372036854775807 < 1 + x5_2.size) = False := eq_false (Nat.not_lt.2 c16)
         by_cases c17 : 2 + x5_2.size ≤ 9223372036854775807
         ·rw [if_pos c17] at H
          have c17b0 := eq_true c17; have c17b1 : decide (2 + x5_2.size ≤ 9223372036854775807) = true := decide_eq_true c17; try have c17b2 : (9223372036854775807 < 2 + x5_2.size) = False := eq_false (Nat.not_lt.2 c17)
          by_cases c18 : 4 + x5_2.size ≤ 9223372036854775807
          ·rw [if_pos c18] at H
           have c18b0 := eq_true c18; have c18b1 : decide (4 + x5_2.size ≤ 9223372036854775807) = true := decide_eq_true c18; try have c18b2 : (9223372036854775807 < 4 + x5_2.size) = False := eq_false (Nat.not_lt.2 c18)
           by_cases c19 : 5 + x5_2.size ≤ 9223372036854775807
           ·rw [if_pos c19] at H
            have c19b0 := eq_true c19; have c19b1 : decide (5 + x5_2.size ≤ 9223372036854775807) = true := decide_eq_true c19; try have c19b2 : (9223372036854775807 < 5 + x5_2.size) = False := eq_false (Nat.not_lt.2 c19)
            obtain ⟨y329, hy329⟩ : ∃ y_ : List ByteArray, y_ = (([a0, x5_2, (⟨#[46]⟩ : ByteArray) ++ x5_2, (⟨#[49, 46]⟩ : ByteArray) ++ x5_2, (⟨#[45, 49, 58, 50]⟩ : ByteArray) ++ x5_2, (⟨#[49, 46, 53, 101, 43]⟩ : ByteArray) ++ x5_2, (⟨#[43, 46]⟩ : ByteArray) ++ x5_2] : List ByteArray)) := ⟨_, rfl⟩; replace H : (targumlaw7_Float11Tells.l1 k2 y329 (y329.length : Int) 0) = some r := by first | (rw [hy329]; with_reducible exact H) | (have H2_ := (Option.bind_some _ _).symm.trans H; rw [hy329]; with_reducible exact H2_) | (have H2_ := (Option.bind_some _ _).symm.trans H; with_reducible exact H2_) | with_reducible exact H | (rw [hy329]; exact H) | exact H
            have Ny329 := AM hy329; clear hy329; have H' := AM H; clear H; go_wp2_with (first | ((with_reducible refine gate_dst (N := 57) rfl ?_); (try (refine gate_guard (by rfl) ?_; dsimp only)); refine Kd.R_lit Kd.string _ 9 ?hg (N := 57) ?hd (xs := ([a0, x5_2, (⟨#[46]⟩ : ByteArray) ++ x5_2, (⟨#[49, 46]⟩ : ByteArray) ++ x5_2, (⟨#[45, 49, 58, 50]⟩ : ByteArray) ++ x5_2, (⟨#[49, 46, 53, 101, 43]⟩ : ByteArray) ++ x5_2, (⟨#[43, 46]⟩ : ByteArray) ++ x5_2] : List ByteArray)) (inner := [.string a0, .string x5_2, .string ((⟨#[46]⟩ : ByteArray) ++ x5_2), .string ((⟨#[49, 46]⟩ : ByteArray) ++ x5_2), .string ((⟨#[45, 49, 58, 50]⟩ : ByteArray) ++ x5_2), .string ((⟨#[49, 46, 53, 101, 43]⟩ : ByteArray) ++ x5_2), .string ((⟨#[43, 46]⟩ : ByteArray) ++ x5_2)]) (ok := fun _ => True) (okp := fun _ => True) ?hr ?hp (fun _ hk => hk) trivial (Below.refl _ _) (Nat.le_refl _) (by simp) ?_; (case hd => rfl); (case hg => rfl); (case hr => first | (go_simp; done) | (go_simp; rfl)); (case hp => exact (Reps.one (show Kd.M Kd.string _ _ _ a0 [.string a0] from rfl) (Reps.one (show Kd.M Kd.string _ _ _ x5_2 [.string x5_2] from rfl) (Reps.one (show Kd.M Kd.string _ _ _ ((⟨#[46]⟩ : ByteArray) ++ x5_2) [.string ((⟨#[46]⟩ : ByteArray) ++ x5_2)] from rfl) (Reps.one (show Kd.M Kd.string _ _ _ ((⟨#[49, 46]⟩ : ByteArray) ++ x5_2) [.string ((⟨#[49, 46]⟩ : ByteArray) ++ x5_2)] from rfl) (Reps.one (show Kd.M Kd.string _ _ _ ((⟨#[45, 49, 58, 50]⟩ : ByteArray) ++ x5_2) [.string ((⟨#[45, 49, 58, 50]⟩ : ByteArray) ++ x5_2)] from rfl) (Reps.one (show Kd.M Kd.string _ _ _ ((⟨#[49, 46, 53, 101, 43]⟩ : ByteArray) ++ x5_2) [.string ((⟨#[49, 46, 53, 101, 43]⟩ : ByteArray) ++ x5_2)] from rfl) (Reps.one (show Kd.M Kd.string _ _ _ ((⟨#[43, 46]⟩ : ByteArray) ++ x5_2) [.string ((⟨#[43, 46]⟩ : ByteArray) ++ x5_2)] from rfl) (Reps.none _ _))))))))); intro v330 w20 ho21 hb hg_ hnew_; clear hg_ hnew_; (first | rw [← Ny329.out] at ho21 | (simp only [Int.reduceToNat] at ho21; rw [← Ny329.out] at ho21)); have HO331 := AM (Kd.R_lower ho21 (below_size bl)); replace HB := AM (below_step bl hb); clear hb ho21; obtain ⟨Ao22, co22, eo22⟩ := Kd.R_slice HO331.out; subst eo22))
            go_loopg [59] k2 (fun kq v59 w' => ∃ (x59_3 : Int), v59 = .int .i64 x59_3 ∧ Aside0 (targumlaw7_Float11Tells.l1 kq y329 (y329.length : Int) x59_3 = some r) ∧ Aside0 (kq ≤ k2) ∧ Aside0 (Kd.R Kd.string 9 w' w.heap.size (fun _ => True) (.slice Ao22 y329.length co22) y329) ∧ Aside0 (Below w.heap.size w w'))
            case atStart => exact ⟨(0), rq, H', ⟨Nat.le_refl _⟩, ⟨by (with_reducible repeat (first | apply Kd.R_alloc | apply Kd.R_drewN | apply Kd.R_drew)); exact HO331.out⟩, ⟨bl⟩⟩
            case round =>
             clear H'; try clear c1; try clear c4; try clear c8; try clear c9; try clear c9b0; try clear c16; try clear c16b0; try clear c16b1; try clear c16b2; try clear c17; try clear c17b0; try clear c17b1; try clear c17b2; try clear c18; try clear c18b0; try clear c18b1; try clear c18b2; try clear c19; try clear c19b0; try clear c19b1; try clear c19b2
             obtain ⟨x59_3, rfl, HA, HK3, HO_57, HB⟩ := hrel; cases gk with
             | zero => exact absurd HA.out (by simp [targumlaw7_Float11Tells.l1])
             | succ k3 =>
              have H := HA.out; clear HA; simp only [targumlaw7_Float11Tells.l1] at H; by_cases c23 : x59_3 < (y329.length : Int)
              ·rw [if_pos c23] at H
               have c23b0 : decide (x59_3 < (y329.length : Int)) = true := decide_eq_true c23; clear c23; by_cases c24 : 0 ≤ x59_3
               ·rw [if_pos c24] at H
                have c24b0 : decide (0 ≤ x59_3) = true := decide_eq_true c24; clear c24; by_cases c25 : x59_3 < (y329.length : Int)
                ·rw [if_pos c25] at H
                 have c25b0 : decide (x59_3 < (y329.length : Int)) = true := decide_eq_true c25; clear c25; replace H := Option.bind_eq_some_iff.mp H; obtain ⟨⟨t333, t334, t335, t336, t337⟩, A260, H⟩ := H; replace H : ((targumref6_Float11.f k3 (rdOf ByteArray.empty y329 x59_3)).bind fun bt339 => (if (!(t333 == bt339.1) || (!(t334 == bt339.2.1) || (!(t335.toList == bt339.2.2.1.toList) || (!(t336.toList == bt339.2.2.2.1.toList))))) = true then (some false) else (if (t337 != (decide (bt339.2.2.2.2 > 0))) = true then (some false) else ((float11_Is.f k3 (rdOf ByteArray.empty y329 x59_3)).bind fun t345 => (if (t345 != t337) = true then (some false) else ((float11_Form.f k3 (rdOf ByteArray.empty y329 x59_3)).bind fun t346 => (if t346 = bt339.2.2.2.2 then (targumlaw7_Float11Tells.l1 k3 y329 (y329.length : Int) (wrap64 (x59_3 + 1))) else (some false)))))))) = some r := H; have A26 := AM A260; clear A260; replace H := Option.bind_eq_some_iff.mp H; obtain ⟨⟨t339, t340, t341, t342, t343⟩, A270, H⟩ := H; replace H : (if (!(t333 == t339) || (!(t334 == t340) || (!(t335.toList == t341.toList) || (!(t336.toList == t342.toList))))) = true then (some false) else (if (t337 != (decide (t343 > 0))) = true then (some false) else ((float11_Is.f k3 (rdOf ByteArray.empty y329 x59_3)).bind fun t345 => (if (t345 != t337) = true then (some false) else ((float11_Form.f k3 (rdOf ByteArray.empty y329 x59_3)).bind fun t346 => (if t346 = t343 then (targumlaw7_Float11Tells.l1 k3 y329 (y329.length : Int) (wrap64 (x59_3 + 1))) else (some false))))))) = some r := H; have A27 := AM A270; clear A270; refine Classical.byCases (p := ((!(t333 == t339) || (!(t334 == t340) || (!(t335.toList == t341.toList) || (!(t336.toList == t342.toList))))) = true)) (fun c28 => ?x5) (fun c28 => ?y5)
                 case' x5 =>
                  rw [if_pos c28] at H; have c28b0 : (!(t333 == t339) || (!(t334 == t340) || (!(t335.toList == t341.toList) || (!(t336.toList == t342.toList))))) = true := c28; clear c28; obtain rfl := Option.some.inj H; have p332 : 0 ≤ (x59_3 : Int) := od; have q332 : x59_3 < (y329.length : Int) := od; obtain ⟨ad332, e332, hx332_0⟩ := Kd.at_string (Kd.R_reads' HO_57.out).2.2 x59_3 p332 q332; cases e332; replace p332 := eq_true p332; replace q332 := eq_true q332; skip
                 case' y5 =>
                  rw [if_neg c28] at H; have c28b0 : (!(t333 == t339) || (!(t334 == t340) || (!(t335.toList == t341.toList) || (!(t336.toList == t342.toList))))) = false := by simpa using c28
                  clear c28; refine Classical.byCases (p := ((t337 != (decide (t343 > 0))) = true)) (fun c37 => ?x6) (fun c37 => ?y6)
                  case' x6 =>
                   rw [if_pos c37] at H; have c37b0 : (t337 != (decide (t343 > 0))) = true := c37; (try (have c37b1 : decide (t337 = (decide (t343 > 0))) = false := by simpa using c37)); (try (have c37b2 : (t337 == (decide (t343 > 0))) = false := by simpa using c37)); (try (have c37b3 : ¬ (t337 = (decide (t343 > 0))) := by simpa using c37)); clear c37; obtain rfl := Option.some.inj H; have p332 : 0 ≤ (x59_3 : Int) := od; have q332 : x59_3 < (y329.length : Int) := od; obtain ⟨ad332, e332, hx332_0⟩ := Kd.at_string (Kd.R_reads' HO_57.out).2.2 x59_3 p332 q332; cases e332; replace p332 := eq_true p332; replace q332 := eq_true q332; skip
                  case' y6 =>
                   rw [if_neg c37] at H; have c37b0 : (t337 != (decide (t343 > 0))) = false := by simpa using c37
                   (try (have c37b1 : decide (t337 = (decide (t343 > 0))) = true := by simpa using c37)); (try (have c37b2 : (t337 == (decide (t343 > 0))) = true := by simpa using c37)); clear c37; replace H := Option.bind_eq_some_iff.mp H; obtain ⟨t345, A460, H⟩ := H; replace H : (if (t345 != t337) = true then (some false) else ((float11_Form.f k3 (rdOf ByteArray.empty y329 x59_3)).bind fun t346 => (if t346 = t343 then (targumlaw7_Float11Tells.l1 k3 y329 (y329.length : Int) (wrap64 (x59_3 + 1))) else (some false)))) = some r := H; have A46 := AM A460; clear A460; refine Classical.byCases (p := ((t345 != t337) = true)) (fun c47 => ?x7) (fun c47 => ?y7)
                   case' x7 =>
                    rw [if_pos c47] at H; have c47b0 : (t345 != t337) = true := c47; (try (have c47b1 : decide (t345 = t337) = false := by simpa using c47)); (try (have c47b2 : (t345 == t337) = false := by simpa using c47)); (try (have c47b3 : ¬ (t345 = t337) := by simpa using c47)); clear c47; obtain rfl := Option.some.inj H; have p332 : 0 ≤ (x59_3 : Int) := od; have q332 : x59_3 < (y329.length : Int) := od; obtain ⟨ad332, e332, hx332_0⟩ := Kd.at_string (Kd.R_reads' HO_57.out).2.2 x59_3 p332 q332; cases e332; replace p332 := eq_true p332; replace q332 := eq_true q332; skip
                   case' y7 =>
                    rw [if_neg c47] at H; have c47b0 : (t345 != t337) = false := by simpa using c47
                    (try (have c47b1 : decide (t345 = t337) = true := by simpa using c47)); (try (have c47b2 : (t345 == t337) = true := by simpa using c47)); clear c47; replace H := Option.bind_eq_some_iff.mp H; obtain ⟨t346, A570, H⟩ := H; replace H : (if t346 = t343 then (targumlaw7_Float11Tells.l1 k3 y329 (y329.length : Int) (wrap64 (x59_3 + 1))) else (some false)) = some r := H; have A57 := AM A570; clear A570; refine Classical.byCases (p := (t346 = t343)) (fun c58 => ?x8) (fun c58 => ?y8)
                    case' x8 =>
                     rw [if_pos c58] at H; have c58b0 : (t346 == t343) = true := beq_iff_eq.mpr c58; have c58b1 : (t346 != t343) = false := bne_eq_false_iff_eq.mpr c58; clear c58; have H' := AM H; clear H; have p332 : 0 ≤ (x59_3 : Int) := od; have q332 : x59_3 < (y329.length : Int) := od; obtain ⟨ad332, e332, hx332_0⟩ := Kd.at_string (Kd.R_reads' HO_57.out).2.2 x59_3 p332 q332; cases e332; replace p332 := eq_true p332; replace q332 := eq_true q332
                     go_wp2_with (first | (go_at_call 8; (try (rename_i hK_; simp only [List.append] at hK_)); (with_reducible refine (float11_Of.calls k3 (rdOf ByteArray.empty y329 x59_3) t333 t334 t335 t336 t337 _ ?side1 A26.out).mono ?_); (case side1 => exact Go.Proofs.YtkijneohhilboaaGreatDoor.PTT.Tabs_below HG.out bl); rintro e w59 ⟨rfl, hb⟩; replace HO_57 := AM (Kd.R_below (by (with_reducible repeat (first | apply Kd.R_alloc | apply Kd.R_drewN | apply Kd.R_drew)); exact HO_57.out) hb); replace HB := AM (below_step bl hb); (try clear hb)) | ((with_reducible refine gate_dst (N := 9) rfl ?_); (try (refine gate_guard (by rfl) ?_; dsimp only)); refine box_event ?hg (N := 9) ?hd (cs := #[.int .i64 0, .bool false, .string (⟨#[]⟩ : ByteArray), .string (⟨#[]⟩ : ByteArray)]) (t := 26) ?hr ?_; (case hd => rfl); (case hg => rfl); (case hr => first | (go_simp; done) | (go_simp; rfl)); intro gb338 hg w60 hbox hb; replace HO_57 := AM (Kd.R_below (by (with_reducible repeat (first | apply Kd.R_alloc | apply Kd.R_drewN | apply Kd.R_drew)); exact HO_57.out) hb); have GW338 := gq (w := w) hg; have GE338 := GW338; replace HB := AM (below_step bl hb); have BK338 := AM (hbox); clear hb hbox hg; obtain ⟨hcz61_0, hcz61_1, hcz61_2, hcz61_3, hfz61_0, hfz61_1, hfz61_2, hfz61_3⟩ := cz4 BK338.out) | (go_at_call 9; (try (rename_i hK_; simp only [List.append] at hK_)); (with_reducible refine (targumref6_Float11.calls k3 (rdOf ByteArray.empty y329 x59_3) t339 t340 t341 t342 t343 _ A27.out).mono ?_); rintro e w62 ⟨rfl, hb⟩; replace HO_57 := AM (Kd.R_below (by (with_reducible repeat (first | apply Kd.R_alloc | apply Kd.R_drewN | apply Kd.R_drew)); exact (Kd.R_mono (Kd.R_far (p := ⟨gb338, 3, none⟩) (Kd.R_far (p := ⟨gb338, 2, none⟩) (Kd.R_far (p := ⟨gb338, 1, none⟩) (Kd.R_far (p := ⟨gb338, 0, none⟩) (Kd.R_types HO_57.out BK338.out (by decide)) (fun _ hk => hk.2) (.int .i64 t333)) (fun _ hk => hk.2) (.bool t334)) (fun _ hk => hk.2) (.string t335)) (fun _ hk => hk.2) (.string t336)) (fun _ h_ => h_.1))) hb); replace BK338 := AM (blk_below (g := gb338) (o := .cells #[.int .i64 t333, .bool t334, .string t335, .string t336] 26 (0, 0)) bk hb); replace HB := AM (below_step bl hb); (try clear hb)) | ((with_reducible refine gate_dst (N := 11) rfl ?_); (try (refine gate_guard (by rfl) ?_; dsimp only)); refine box_event ?hg (N := 11) ?hd (cs := #[.int .i64 0, .bool false, .string (⟨#[]⟩ : ByteArray), .string (⟨#[]⟩ : ByteArray)]) (t := 26) ?hr ?_; (case hd => rfl); (case hg => rfl); (case hr => first | (go_simp; done) | (go_simp; rfl)); intro gb344 hg w63 hbox hb; replace HO_57 := AM (Kd.R_below (by (with_reducible repeat (first | apply Kd.R_alloc | apply Kd.R_drewN | apply Kd.R_drew)); exact HO_57.out) hb); have NB338_344 := AM ((by rw [hg]; exact Nat.ne_of_lt (blk_lt (g := gb338) (o := .cells #[.int .i64 t333, .bool t334, .string t335, .string t336] 26 (0, 0)) bk) : gb338 ≠ gb344)); have NB344_338 := AM (Ne.symm NB338_344.out); have GW344 := gq (w := w) hg; have GE344 := GW344; replace BK338 := AM (blk_below (g := gb338) (o := .cells #[.int .i64 t333, .bool t334, .string t335, .string t336] 26 (0, 0)) bk hb); replace HB := AM (below_step bl hb); have BK344 := AM (hbox); clear hb hbox hg; have hnb64 := NB344_338.out; have hnc64 := NB338_344.out; obtain ⟨hcz65_0, hcz65_1, hcz65_2, hcz65_3, hfz65_0, hfz65_1, hfz65_2, hfz65_3⟩ := cz4 BK344.out; obtain ⟨hcz66_0, hcz66_1, hcz66_2, hcz66_3, hfz66_0, hfz66_1, hfz66_2, hfz66_3⟩ := cz4 BK338.out) | (go_at_call 10; (try (rename_i hK_; simp only [List.append] at hK_)); (with_reducible refine (float11_Is.calls k3 (rdOf ByteArray.empty y329 x59_3) t345 _ A46.out).mono ?_); rintro e w67 ⟨rfl, hb⟩; replace HO_57 := AM (Kd.R_below (by (with_reducible repeat (first | apply Kd.R_alloc | apply Kd.R_drewN | apply Kd.R_drew)); exact (Kd.R_mono (Kd.R_far (p := ⟨gb344, 3, none⟩) (Kd.R_far (p := ⟨gb344, 2, none⟩) (Kd.R_far (p := ⟨gb344, 1, none⟩) (Kd.R_far (p := ⟨gb344, 0, none⟩) (Kd.R_types HO_57.out BK344.out (by decide)) (fun _ hk => hk.2) (.int .i64 t339)) (fun _ hk => hk.2) (.bool t340)) (fun _ hk => hk.2) (.string t341)) (fun _ hk => hk.2) (.string t342)) (fun _ h_ => h_.1))) hb); replace BK338 := AM (blk_below (g := gb338) (o := .cells #[.int .i64 t333, .bool t334, .string t335, .string t336] 26 (0, 0)) bk hb); replace BK344 := AM (blk_below (g := gb344) (o := .cells #[.int .i64 t339, .bool t340, .string t341, .string t342] 26 (0, 0)) bk hb); replace HB := AM (below_step bl hb); (try clear hb)) | (go_at_call 11; (try (rename_i hK_; simp only [List.append] at hK_)); (with_reducible refine (float11_Form.calls k3 (rdOf ByteArray.empty y329 x59_3) t346 _ A57.out).mono ?_); rintro e w68 ⟨rfl, hb⟩; replace HO_57 := AM (Kd.R_below (by (with_reducible repeat (first | apply Kd.R_alloc | apply Kd.R_drewN | apply Kd.R_drew)); exact HO_57.out) hb); replace BK338 := AM (blk_below (g := gb338) (o := .cells #[.int .i64 t333, .bool t334, .string t335, .string t336] 26 (0, 0)) bk hb); replace BK344 := AM (blk_below (g := gb344) (o := .cells #[.int .i64 t339, .bool t340, .string t341, .string t342] 26 (0, 0)) bk hb); replace HB := AM (below_step bl hb); (try clear hb)))
                     go_roundg k3
                     case measure => have := HJ4.out; have := HK2.out; have := HK3.out; omega
                     case rel => exact ⟨(wrap64 (x59_3 + 1)), rq, H', ⟨by have := HJ4.out; have := HK2.out; have := HK3.out; omega⟩, ⟨by (with_reducible repeat (first | apply Kd.R_alloc | apply Kd.R_drewN | apply Kd.R_drew)); exact HO_57.out⟩, ⟨bl⟩⟩
                    case' y8 =>
                     rw [if_neg c58] at H; have c58b0 : (t346 == t343) = false := beq_eq_false_iff_ne.mpr c58; have c58b1 : (t346 != t343) = true := bne_iff_ne.mpr c58; obtain rfl := Option.some.inj H; have p332 : 0 ≤ (x59_3 : Int) := od; have q332 : x59_3 < (y329.length : Int) := od; obtain ⟨ad332, e332, hx332_0⟩ := Kd.at_string (Kd.R_reads' HO_57.out).2.2 x59_3 p332 q332; cases e332; replace p332 := eq_true p332; replace q332 := eq_true q332; skip
                 case x5 | x6 | x7 | y7 =>
                  as_aux_lemma =>
                   go_wp2_with (first | (go_at_call 8; (try (rename_i hK_; simp only [List.append] at hK_)); (with_reducible refine (float11_Of.calls _ _ _ _ _ _ _ _ ?side1 A26.out).mono ?_); (case side1 => exact Go.Proofs.YtkijneohhilboaaGreatDoor.PTT.Tabs_below HG.out bl); rintro e w69 ⟨rfl, hb⟩; replace HO_57 := AM (Kd.R_below (by (with_reducible repeat (first | apply Kd.R_alloc | apply Kd.R_drewN | apply Kd.R_drew)); exact HO_57.out) hb); replace HB := AM (below_step bl hb); (try clear hb)) | ((with_reducible refine gate_dst (N := 9) rfl ?_); (try (refine gate_guard (by rfl) ?_; dsimp only)); refine box_event ?hg (N := 9) ?hd (cs := #[.int .i64 0, .bool false, .string (⟨#[]⟩ : ByteArray), .string (⟨#[]⟩ : ByteArray)]) (t := 26) ?hr ?_; (case hd => rfl); (case hg => rfl); (case hr => first | (go_simp; done) | (go_simp; rfl)); intro gb338 hg w70 hbox hb; replace HO_57 := AM (Kd.R_below (by (with_reducible repeat (first | apply Kd.R_alloc | apply Kd.R_drewN | apply Kd.R_drew)); exact HO_57.out) hb); have GW338 := gq (w := w) hg; have GE338 := GW338; replace HB := AM (below_step bl hb); have BK338 := AM (hbox); clear hb hbox hg; obtain ⟨hcz71_0, hcz71_1, hcz71_2, hcz71_3, hfz71_0, hfz71_1, hfz71_2, hfz71_3⟩ := cz4 BK338.out) | (go_at_call 9; (try (rename_i hK_; simp only [List.append] at hK_)); (with_reducible refine (targumref6_Float11.calls _ _ _ _ _ _ _ _ A27.out).mono ?_); rintro e w72 ⟨rfl, hb⟩; replace HO_57 := AM (Kd.R_below (by (with_reducible repeat (first | apply Kd.R_alloc | apply Kd.R_drewN | apply Kd.R_drew)); exact (Kd.R_mono (Kd.R_far (p := ⟨gb338, 3, none⟩) (Kd.R_far (p := ⟨gb338, 2, none⟩) (Kd.R_far (p := ⟨gb338, 1, none⟩) (Kd.R_far (p := ⟨gb338, 0, none⟩) (Kd.R_types HO_57.out BK338.out (by decide)) (fun _ hk => hk.2) (.int .i64 t333)) (fun _ hk => hk.2) (.bool t334)) (fun _ hk => hk.2) (.string t335)) (fun _ hk => hk.2) (.string t336)) (fun _ h_ => h_.1))) hb); replace BK338 := AM (blk_below (g := gb338) (o := .cells #[.int .i64 t333, .bool t334, .string t335, .string t336] 26 (0, 0)) bk hb); replace HB := AM (below_step bl hb); (try clear hb)) | ((with_reducible refine gate_dst (N := 11) rfl ?_); (try (refine gate_guard (by rfl) ?_; dsimp only)); refine box_event ?hg (N := 11) ?hd (cs := #[.int .i64 0, .bool false, .string (⟨#[]⟩ : ByteArray), .string (⟨#[]⟩ : ByteArray)]) (t := 26) ?hr ?_; (case hd => rfl); (case hg => rfl); (case hr => first | (go_simp; done) | (go_simp; rfl)); intro gb344 hg w73 hbox hb; replace HO_57 := AM (Kd.R_below (by (with_reducible repeat (first | apply Kd.R_alloc | apply Kd.R_drewN | apply Kd.R_drew)); exact HO_57.out) hb); have NB338_344 := AM ((by rw [hg]; exact Nat.ne_of_lt (blk_lt (g := gb338) (o := .cells #[.int .i64 t333, .bool t334, .string t335, .string t336] 26 (0, 0)) bk) : gb338 ≠ gb344)); have NB344_338 := AM (Ne.symm NB338_344.out); have GW344 := gq (w := w) hg; have GE344 := GW344; replace BK338 := AM (blk_below (g := gb338) (o := .cells #[.int .i64 t333, .bool t334, .string t335, .string t336] 26 (0, 0)) bk hb); replace HB := AM (below_step bl hb); have BK344 := AM (hbox); clear hb hbox hg; have hnb74 := NB344_338.out; have hnc74 := NB338_344.out; obtain ⟨hcz75_0, hcz75_1, hcz75_2, hcz75_3, hfz75_0, hfz75_1, hfz75_2, hfz75_3⟩ := cz4 BK344.out; obtain ⟨hcz76_0, hcz76_1, hcz76_2, hcz76_3, hfz76_0, hfz76_1, hfz76_2, hfz76_3⟩ := cz4 BK338.out) | (go_at_call 10; (try (rename_i hK_; simp only [List.append] at hK_)); (with_reducible refine (float11_Is.calls _ _ _ _ A46.out).mono ?_); rintro e w77 ⟨rfl, hb⟩; replace HO_57 := AM (Kd.R_below (by (with_reducible repeat (first | apply Kd.R_alloc | apply Kd.R_drewN | apply Kd.R_drew)); exact (Kd.R_mono (Kd.R_far (p := ⟨gb344, 3, none⟩) (Kd.R_far (p := ⟨gb344, 2, none⟩) (Kd.R_far (p := ⟨gb344, 1, none⟩) (Kd.R_far (p := ⟨gb344, 0, none⟩) (Kd.R_types HO_57.out BK344.out (by decide)) (fun _ hk => hk.2) (.int .i64 t339)) (fun _ hk => hk.2) (.bool t340)) (fun _ hk => hk.2) (.string t341)) (fun _ hk => hk.2) (.string t342)) (fun _ h_ => h_.1))) hb); replace BK338 := AM (blk_below (g := gb338) (o := .cells #[.int .i64 t333, .bool t334, .string t335, .string t336] 26 (0, 0)) bk hb); replace BK344 := AM (blk_below (g := gb344) (o := .cells #[.int .i64 t339, .bool t340, .string t341, .string t342] 26 (0, 0)) bk hb); replace HB := AM (below_step bl hb); (try clear hb)) | (go_at_call 11; (try (rename_i hK_; simp only [List.append] at hK_)); (with_reducible refine (float11_Form.calls _ _ _ _ A57.out).mono ?_); rintro e w78 ⟨rfl, hb⟩; replace HO_57 := AM (Kd.R_below (by (with_reducible repeat (first | apply Kd.R_alloc | apply Kd.R_drewN | apply Kd.R_drew)); exact HO_57.out) hb); replace BK338 := AM (blk_below (g := gb338) (o := .cells #[.int .i64 t333, .bool t334, .string t335, .string t336] 26 (0, 0)) bk hb); replace BK344 := AM (blk_below (g := gb344) (o := .cells #[.int .i64 t339, .bool t340, .string t341, .string t342] 26 (0, 0)) bk hb); replace HB := AM (below_step bl hb); (try clear hb)))
                   go_ret
                   exact ⟨ew, bl⟩
                ·rw [if_neg c25] at H
                 exact absurd H (by simp)
               ·rw [if_neg c24] at H
                exact absurd H (by simp)
              ·rw [if_neg c23] at H
               have c23b0 : decide (x59_3 < (y329.length : Int)) = false := decide_eq_false c23; clear c23; obtain rfl := Option.some.inj H; go_wp2; repeat (go_quiet (fail); try go_wp2)
               go_ret
               exact ⟨ew, bl⟩
           ·rw [if_neg c19] at H
            exact absurd H (by simp)
          ·rw [if_neg c18] at H
           exact absurd H (by simp)
         ·rw [if_neg c17] at H
          exact absurd H (by simp)
        ·rw [if_neg c16] at H
         exact absurd H (by simp)
 ·replace c4 := Bool.eq_false_iff.mpr c4
  subst c4
  have H1 : (some false) = some r := by rw [if_neg (show ¬ (false = true) by decide)] at H; exact H
  clear H
  have H := H1
  clear H1
  obtain rfl := Option.some.inj H
  go_enter Tryz.func3, Tryz.ntmps3
  go_wp2_with (first | (go_at_call 7; (try (rename_i hK_; simp only [List.append] at hK_)); (with_reducible refine (targumlaw7_known.calls k  false _ ?side1 A3.out).mono ?_); (case side1 => exact Go.Proofs.YtkijneohhilboaaGreatDoor.PTT.Tabs_below HG.out bl); rintro e w79 ⟨rfl, hb⟩; replace HB := AM (below_step bl hb); (try clear hb)))
  go_ret
  exact ⟨ew, bl⟩

/-- THE ONE PURE STATEMENT of targumlaw7_Float11Tells: yours. -/
def targumlaw7_Float11Tells.Pure : Prop := ∀ (a0 : ByteArray) (l1 : List Int), a0.size ≤ 140737488351232 → l1.length ≤ maxLen → l1.length * 1 ≤ 140737488351232 → (∀ x ∈ l1, (Lit.int .u8 x).wf = true) → ∃ k, targumlaw7_Float11Tells.f k a0 l1 = some true
theorem targumlaw7_Float11Tells.walk (P : targumlaw7_Float11Tells.Pure) (a0 : ByteArray) (a1 : Option Addr) (len1 cap1 : Nat) (z1 : List Int) (w : World) (w0 : a0.size ≤ 140737488351232) (w1 : (a1 = none ∧ len1 = 0 ∧ cap1 = 0 ∧ z1 = []) ∨ ∃ x, a1 = some x ∧ len1 ≤ cap1 ∧ cap1 ≤ maxLen ∧ z1.length = cap1 ∧ (∀ i, i < z1.length → w.cell? (x.add i) = some (.int .u8 (z1.getD i 0))) ∧ ∀ n ∈ z1, (Lit.int .u8 n).wf = true) (y1 : len1 * 1 ≤ 140737488351232) (hG : Go.Proofs.YtkijneohhilboaaGreatDoor.PTT.Tabs w) :
  Calls Tryz.prog 3 #[.string a0, .slice a1 len1 cap1] w fun e w' => e = .returned (.bool true) ∧ Below w.heap.size w w' := by
 obtain ⟨l1, rfl, hr1, hm1, hw1, hc1⟩ := ReadsInt.ofRowC w1
 obtain ⟨k, h⟩ := P a0 l1 w0 hm1 y1 hw1
 refine (targumlaw7_Float11Tells.calls k a0 _ _ l1 true w (Kd.C_of_reads (d := (0 : Int)) (h1 := fun _ => rfl) hr1) hc1 hG h).mono ?_
 rintro e w' ⟨rfl, hd⟩
 exact ⟨rfl, hd⟩

end Go.Proofs.YtkijneohhilboaaGreatDoor.PT
