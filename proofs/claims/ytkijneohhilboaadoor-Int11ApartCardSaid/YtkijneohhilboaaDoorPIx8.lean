/- Written by this session's own program (xprint, made over the kit's print): Lean functions with the same answers as the Go functions, and the proofs of that. Not trusted: Lean checks it. -/
import Derived.Test.YtkijneohhilboaaDoorPIx0
import Derived.Test.YtkijneohhilboaaDoorPIx1
import Derived.Test.YtkijneohhilboaaDoorPIx3
import Derived.Test.YtkijneohhilboaaDoorPIx7
import Derived.Test.YtkijneohhilboaaDoorXW
namespace Go.Proofs.YtkijneohhilboaaDoor.PI
open Go.Proofs.YtkijneohhilboaaDoor.XW Go.RowKit Go.Proofs.YtkijneohhilboaaDoorW.PrintWords Go.Proofs.YtkijneohhilboaaDoorW.PrintLast Go.Proofs.YtkijneohhilboaaDoorW.PrintMore
attribute [local go_sem] max2_int min2_int max_two min_two max_three min_three max_four min_four   -- for this text's walks alone
set_option linter.unusedVariables false
set_option linter.unusedSimpArgs false

/-! ### targumlaw6_Int11Tells: function 5 -/
mutual
def targumlaw6_Int11Tells.j0 : Nat → ByteArray → List Int → Bool → Option (Bool)
 | 0, _, _, _ => none
 | k + 1, x0, x1, x22 => if x22 = true then (some true) else (targumlaw6_Int11Tells.l0 k x0 x1 (⟨#[]⟩ : ByteArray) 0)
def targumlaw6_Int11Tells.l0 : Nat → ByteArray → List Int → ByteArray → Int → Option (Bool)
 | 0, _, _, _, _ => none
 | k + 1, x0, x1, x5, x6 => if x6 < (x1.length : Int) then (if 0 ≤ x6 then (if 0 ≤ (Int.tmod (wrap64 (rd x1 x6)) 26) then (if (Int.tmod (wrap64 (rd x1 x6)) 26) ≤ (wrap64 ((Int.tmod (wrap64 (rd x1 x6)) 26) + 1)) then (if (wrap64 ((Int.tmod (wrap64 (rd x1 x6)) 26) + 1)) ≤ 26 then (if x5.size + ((⟨#[48, 49, 50, 51, 52, 53, 54, 55, 56, 57, 95, 58, 97, 98, 99, 100, 101, 102, 120, 111, 98, 43, 45, 46, 101, 69]⟩ : ByteArray).extract ((Int.tmod (wrap64 (rd x1 x6)) 26) : Int).toNat ((wrap64 ((Int.tmod (wrap64 (rd x1 x6)) 26) + 1)) : Int).toNat).size ≤ 9223372036854775807 then (targumlaw6_Int11Tells.l0 k x0 x1 (x5 ++ ((⟨#[48, 49, 50, 51, 52, 53, 54, 55, 56, 57, 95, 58, 97, 98, 99, 100, 101, 102, 120, 111, 98, 43, 45, 46, 101, 69]⟩ : ByteArray).extract ((Int.tmod (wrap64 (rd x1 x6)) 26) : Int).toNat ((wrap64 ((Int.tmod (wrap64 (rd x1 x6)) 26) + 1)) : Int).toNat)) (wrap64 (x6 + 1))) else (none)) else (none)) else (none)) else (none)) else (none)) else (if 1 + x5.size ≤ 9223372036854775807 then (if 2 + x5.size ≤ 9223372036854775807 then ((some (([x0, x5, (⟨#[48]⟩ : ByteArray) ++ x5, (⟨#[48, 120]⟩ : ByteArray) ++ x5, (⟨#[48, 98]⟩ : ByteArray) ++ x5, (⟨#[45, 49]⟩ : ByteArray) ++ x5, (⟨#[49, 58]⟩ : ByteArray) ++ x5] : List ByteArray) : List ByteArray)).bind fun y205 => (targumlaw6_Int11Tells.l1 k y205 (y205.length : Int) 0)) else (none)) else (none))
def targumlaw6_Int11Tells.l1 : Nat → List ByteArray → Int → Int → Option (Bool)
 | 0, _, _, _ => none
 | k + 1, x57, x58, x59 => if x59 < x58 then (if 0 ≤ x59 then (if x59 < (x57.length : Int) then ((int11_Of.f k (rdOf ByteArray.empty x57 x59)).bind fun bt209 => ((targumref6_Int11.f k (rdOf ByteArray.empty x57 x59)).bind fun bt211 => (if bt209.1.toList = bt211.1.toList then (if (bt209.2 != (decide (bt211.2 > 0))) = true then (some false) else ((int11_Is.f (rdOf ByteArray.empty x57 x59)).bind fun t213 => (if (t213 != bt209.2) = true then (some false) else ((int11_Form.f (rdOf ByteArray.empty x57 x59)).bind fun t214 => (if t214 = bt211.2 then (targumlaw6_Int11Tells.l1 k x57 x58 (wrap64 (x59 + 1))) else (some false)))))) else (some false)))) else (none)) else (none)) else (some true)
end
def targumlaw6_Int11Tells.f (k : Nat) (a0 : ByteArray) (l1 : List Int) : Option (Bool) := (targumlaw6_known.f k).bind fun t202 => (if t202 = true then (if (a0.size : Int) > 60 then (targumlaw6_Int11Tells.j0 k a0 l1 true) else (targumlaw6_Int11Tells.j0 k a0 l1 (decide ((l1.length : Int) > 40)))) else (some false))
theorem targumlaw6_Int11Tells.mono_l : ∀ k, (∀ y0 y1 y2, LeO (targumlaw6_Int11Tells.j0 k y0 y1 y2) (targumlaw6_Int11Tells.j0 (k + 1) y0 y1 y2)) ∧ (∀ y0 y1 y2 y3, LeO (targumlaw6_Int11Tells.l0 k y0 y1 y2 y3) (targumlaw6_Int11Tells.l0 (k + 1) y0 y1 y2 y3)) ∧ (∀ y0 y1 y2, LeO (targumlaw6_Int11Tells.l1 k y0 y1 y2) (targumlaw6_Int11Tells.l1 (k + 1) y0 y1 y2))
 | 0 => ⟨fun _ _ _ r h => by simp [targumlaw6_Int11Tells.j0] at h, fun _ _ _ _ r h => by simp [targumlaw6_Int11Tells.l0] at h, fun _ _ _ r h => by simp [targumlaw6_Int11Tells.l1] at h⟩
 | k + 1 => by
  obtain ⟨ih0, ih1, ih2⟩ := targumlaw6_Int11Tells.mono_l k
  refine ⟨?_, ?_, ?_⟩
  ·intro y0 y1 y2
   unfold targumlaw6_Int11Tells.j0
   repeat' first
   | (with_reducible exact ih0 _ _ _)
   | (with_reducible exact ih1 _ _ _ _)
   | (with_reducible exact ih2 _ _ _)
   | (with_reducible exact int11_Of.mono _ _)
   | (with_reducible exact targumlaw6_known.mono _)
   | (with_reducible exact targumref6_Int11.mono _ _)
   | (with_reducible exact LeO.refl _)
   | (with_reducible exact LeO.none _)
   | (with_reducible refine LeO.ite ?_ ?_)
   | (with_reducible refine LeO.bind ?_ (fun _ => ?_))
   | exact ih0 _ _ _
   | exact ih1 _ _ _ _
   | exact ih2 _ _ _
   | exact int11_Of.mono _ _
   | exact targumlaw6_known.mono _
   | exact targumref6_Int11.mono _ _
   | exact LeO.none _
   | refine LeO.ite ?_ ?_
   | refine LeO.bind ?_ (fun _ => ?_)
  ·intro y0 y1 y2 y3
   unfold targumlaw6_Int11Tells.l0
   repeat' first
   | (with_reducible exact ih0 _ _ _)
   | (with_reducible exact ih1 _ _ _ _)
   | (with_reducible exact ih2 _ _ _)
   | (with_reducible exact int11_Of.mono _ _)
   | (with_reducible exact targumlaw6_known.mono _)
   | (with_reducible exact targumref6_Int11.mono _ _)
   | (with_reducible exact LeO.refl _)
   | (with_reducible exact LeO.none _)
   | (with_reducible refine LeO.ite ?_ ?_)
   | (with_reducible refine LeO.bind ?_ (fun _ => ?_))
   | exact ih0 _ _ _
   | exact ih1 _ _ _ _
   | exact ih2 _ _ _
   | exact int11_Of.mono _ _
   | exact targumlaw6_known.mono _
   | exact targumref6_Int11.mono _ _
   | exact LeO.none _
   | refine LeO.ite ?_ ?_
   | refine LeO.bind ?_ (fun _ => ?_)
  ·intro y0 y1 y2
   unfold targumlaw6_Int11Tells.l1
   repeat' first
   | (with_reducible exact ih0 _ _ _)
   | (with_reducible exact ih1 _ _ _ _)
   | (with_reducible exact ih2 _ _ _)
   | (with_reducible exact int11_Of.mono _ _)
   | (with_reducible exact targumlaw6_known.mono _)
   | (with_reducible exact targumref6_Int11.mono _ _)
   | (with_reducible exact LeO.refl _)
   | (with_reducible exact LeO.none _)
   | (with_reducible refine LeO.ite ?_ ?_)
   | (with_reducible refine LeO.bind ?_ (fun _ => ?_))
   | exact ih0 _ _ _
   | exact ih1 _ _ _ _
   | exact ih2 _ _ _
   | exact int11_Of.mono _ _
   | exact targumlaw6_known.mono _
   | exact targumref6_Int11.mono _ _
   | exact LeO.none _
   | refine LeO.ite ?_ ?_
   | refine LeO.bind ?_ (fun _ => ?_)
theorem targumlaw6_Int11Tells.mono : ∀ a0 a1 k, LeO (targumlaw6_Int11Tells.f k a0 a1) (targumlaw6_Int11Tells.f (k + 1) a0 a1) := by
 intro a0 a1 k
 obtain ⟨ih0, ih1, ih2⟩ := targumlaw6_Int11Tells.mono_l k
 unfold targumlaw6_Int11Tells.f
 repeat' first
   | (with_reducible exact ih0 _ _ _)
   | (with_reducible exact ih1 _ _ _ _)
   | (with_reducible exact ih2 _ _ _)
   | (with_reducible exact int11_Of.mono _ _)
   | (with_reducible exact targumlaw6_known.mono _)
   | (with_reducible exact targumref6_Int11.mono _ _)
   | (with_reducible exact LeO.refl _)
   | (with_reducible exact LeO.none _)
   | (with_reducible refine LeO.ite ?_ ?_)
   | (with_reducible refine LeO.bind ?_ (fun _ => ?_))
   | exact ih0 _ _ _
   | exact ih1 _ _ _ _
   | exact ih2 _ _ _
   | exact int11_Of.mono _ _
   | exact targumlaw6_known.mono _
   | exact targumref6_Int11.mono _ _
   | exact LeO.none _
   | refine LeO.ite ?_ ?_
   | refine LeO.bind ?_ (fun _ => ?_)
set_option maxHeartbeats 8000000 in
set_option maxRecDepth 100000 in
theorem targumlaw6_Int11Tells.calls (k : Nat) (a0 : ByteArray) (A1 : Option Addr) (c1 : Nat) (l1 : List Int) (r : Bool) (w : World) (hr1 : Kd.C (Kd.int .u8) w A1 l1.length l1) (hc1 : l1.length ≤ c1) (hG : Go.Proofs.YtkijneohhilboaaDoor.PIT.Tabs w) (h : targumlaw6_Int11Tells.f k a0 l1 = some r) :
  Calls Tryd.prog 5 #[.string a0, .slice A1 l1.length c1] w fun e w' => e = .returned (.bool r) ∧ Below w.heap.size w w' := by
 have HG := Aside0.mk hG
 clear hG
 have HR1 := Aside0.mk hr1
 have HC1 := Aside0.mk hc1
 clear hr1 hc1
 have HB := Aside0.mk (Below.refl w.heap.size w)
 have H : ((targumlaw6_known.f k).bind fun t202 => (if t202 = true then (if (a0.size : Int) > 60 then (targumlaw6_Int11Tells.j0 k a0 l1 true) else (targumlaw6_Int11Tells.j0 k a0 l1 (decide ((l1.length : Int) > 40)))) else (some false))) = some r := h
 clear h
 replace H := Option.bind_eq_some_iff.mp H
 obtain ⟨t202, A30, H⟩ := H
 replace H : (if t202 = true then (if (a0.size : Int) > 60 then (targumlaw6_Int11Tells.j0 k a0 l1 true) else (targumlaw6_Int11Tells.j0 k a0 l1 (decide ((l1.length : Int) > 40)))) else (some false)) = some r := H
 have A3 := Aside0.mk A30
 clear A30
 by_cases c4 : t202 = true
 ·subst c4
  have H1 : (if (a0.size : Int) > 60 then (targumlaw6_Int11Tells.j0 k a0 l1 true) else (targumlaw6_Int11Tells.j0 k a0 l1 (decide ((l1.length : Int) > 40)))) = some r := by rw [if_pos rfl] at H; exact H
  clear H
  have H := H1
  clear H1
  have HC5 := Aside0.mk H
  clear H
  go_enter Tryd.func5, Tryd.ntmps5
  go_upto_region 3 with (first | (go_at_call 10; (try (rename_i hK_; simp only [List.append] at hK_)); (with_reducible refine (targumlaw6_known.calls k  true _ ?side1 A3.out).mono ?_); (case side1 => exact Go.Proofs.YtkijneohhilboaaDoor.PIT.Tabs_below HG.out bl); rintro e w6 ⟨rfl, hb⟩; have n0_ := Aside0.mk (below_step bl hb); clear HB; have HB := n0_; clear n0_; (try clear hb); (try clear hb2); (try clear hk); (try clear hi)))
  repeat (go_quiet (first | (go_at_call 10; (try (rename_i hK_; simp only [List.append] at hK_)); (with_reducible refine (targumlaw6_known.calls k  true _ ?side1 A3.out).mono ?_); (case side1 => exact Go.Proofs.YtkijneohhilboaaDoor.PIT.Tabs_below HG.out bl); rintro e w6 ⟨rfl, hb⟩; have n0_ := Aside0.mk (below_step bl hb); clear HB; have HB := n0_; clear n0_; (try clear hb); (try clear hb2); (try clear hk); (try clear hi))); go_upto_region 3 with (first | (go_at_call 10; (try (rename_i hK_; simp only [List.append] at hK_)); (with_reducible refine (targumlaw6_known.calls k  true _ ?side1 A3.out).mono ?_); (case side1 => exact Go.Proofs.YtkijneohhilboaaDoor.PIT.Tabs_below HG.out bl); rintro e w6 ⟨rfl, hb⟩; have n0_ := Aside0.mk (below_step bl hb); clear HB; have HB := n0_; clear n0_; (try clear hb); (try clear hb2); (try clear hk); (try clear hi))))
  (try simp only [Act.put, List.setIfInBounds_toArray, List.set_cons_zero, List.set_cons_succ])
  go_cut [22] (fun v22 wc => ∃ (kq : Nat) (x22_4 : Bool), v22 = .bool x22_4 ∧ Aside0 (targumlaw6_Int11Tells.j0 kq a0 l1 x22_4 = some r) ∧ Aside0 (kq ≤ k) ∧ Aside0 (Below w.heap.size w wc))
  case first =>
   have H := HC5.out
   clear HC5
   by_cases c7 : (a0.size : Int) > 60
   ·rw [if_pos c7] at H
    have c7b0 : decide (60 < (a0.size : Int)) = true := decide_eq_true c7
    have c7b1 : decide (60 < a0.size) = true := decide_eq_true (by omega)
    clear c7
    (first | rw [c7b0] | (simp only [i64_w, i32_w]; rw [c7b0]) | skip)
    have H' := Aside0.mk H
    clear H
    go_wp2
    repeat (go_quiet (fail); try go_wp2)
    go_meet
    case rel => exact ⟨_, (true), (by first | rfl | (simp; done) | (simp [*]; done) | (simp [wrap64]; done)), H', ⟨by first | omega | exact Nat.le_refl _⟩, ⟨bl⟩⟩
   ·rw [if_neg c7] at H
    have c7b0 : decide (60 < (a0.size : Int)) = false := decide_eq_false c7
    have c7b1 : decide (60 < a0.size) = false := decide_eq_false (by omega)
    clear c7
    (first | rw [c7b0] | (simp only [i64_w, i32_w]; rw [c7b0]) | skip)
    have H' := Aside0.mk H
    clear H
    go_wp2
    repeat (go_quiet (fail); try go_wp2)
    go_meet
    case rel => exact ⟨_, (decide ((l1.length : Int) > 40)), (by first | rfl | (simp; done) | (simp [*]; done) | (simp [wrap64]; done)), H', ⟨by first | omega | exact Nat.le_refl _⟩, ⟨bl⟩⟩
  case rest =>
   clear HC5
   try clear c1; try clear p2; try clear c4; try clear c5; try clear c7; try clear c7b0; try clear c7b1
   obtain ⟨kq, x22_4, rfl, HA, HJ4, HB⟩ := hcut
   cases kq with
   | zero => exact absurd HA.out (by simp [targumlaw6_Int11Tells.j0])
   | succ kj4 =>
    have H := HA.out
    clear HA
    simp only [targumlaw6_Int11Tells.j0] at H
    by_cases c8 : x22_4 = true
    ·subst c8
     have H1 : (some true) = some r := by rw [if_pos rfl] at H; exact H
     clear H
     have H := H1
     clear H1
     obtain rfl := Option.some.inj H
     go_wp2
     repeat (go_quiet (fail); try go_wp2)
     go_ret
     exact ⟨by first | rfl | (simp [errW_none, errW_some] <;> rfl) | (simp [*, errW_none, errW_some] <;> rfl), bl⟩
    ·replace c8 := Bool.eq_false_iff.mpr c8
     subst c8
     have H1 : (targumlaw6_Int11Tells.l0 kj4 a0 l1 (⟨#[]⟩ : ByteArray) 0) = some r := by rw [if_neg (show ¬ (false = true) by decide)] at H; exact H
     clear H
     have H := H1
     clear H1
     have H' := Aside0.mk H
     clear H
     go_wp2
     repeat (go_quiet (fail); try go_wp2)
     go_loopg [5, 6] kj4 (fun kq v5 v6 w' => ∃ (x5_2 : ByteArray) (x6_2 : Int), v5 = .string x5_2 ∧ v6 = .int .i64 x6_2 ∧ Aside0 (targumlaw6_Int11Tells.l0 kq a0 l1 x5_2 x6_2 = some r) ∧ Aside0 (kq ≤ kj4) ∧ Aside0 (Below w.heap.size w w'))
     case atStart => exact ⟨((⟨#[]⟩ : ByteArray)), (0), (by first | rfl | (simp; done) | (simp [*]; done) | (simp [wrap64]; done)), (by first | rfl | (simp; done) | (simp [*]; done) | (simp [wrap64]; done)), H', ⟨Nat.le_refl _⟩, ⟨bl⟩⟩
     case round =>
      clear H'
      try clear c1; try clear p2; try clear c4; try clear c5; try clear c7; try clear c7b0; try clear c7b1; try clear c8; try clear p2
      obtain ⟨x5_2, x6_2, rfl, rfl, HA, HK2, HB⟩ := hrel
      cases gk with
      | zero => exact absurd HA.out (by simp [targumlaw6_Int11Tells.l0])
      | succ k2 =>
       have H := HA.out
       clear HA
       simp only [targumlaw6_Int11Tells.l0] at H
       by_cases c9 : x6_2 < (l1.length : Int)
       ·rw [if_pos c9] at H
        have c9b0 : decide (x6_2 < (l1.length : Int)) = true := decide_eq_true c9
        clear c9
        by_cases c10 : 0 ≤ x6_2
        ·rw [if_pos c10] at H
         have c10b0 : decide (0 ≤ x6_2) = true := decide_eq_true c10
         clear c10
         obtain ⟨ji11, hji11⟩ : ∃ j_ : Int, (Int.tmod (wrap64 (rd l1 x6_2)) 26) = j_ := ⟨_, rfl⟩
         replace H : (if 0 ≤ (ji11) then (if (ji11) ≤ (wrap64 ((ji11) + 1)) then (if (wrap64 ((ji11) + 1)) ≤ 26 then (if x5_2.size + ((⟨#[48, 49, 50, 51, 52, 53, 54, 55, 56, 57, 95, 58, 97, 98, 99, 100, 101, 102, 120, 111, 98, 43, 45, 46, 101, 69]⟩ : ByteArray).extract ((ji11) : Int).toNat ((wrap64 ((ji11) + 1)) : Int).toNat).size ≤ 9223372036854775807 then (targumlaw6_Int11Tells.l0 k2 a0 l1 (x5_2 ++ ((⟨#[48, 49, 50, 51, 52, 53, 54, 55, 56, 57, 95, 58, 97, 98, 99, 100, 101, 102, 120, 111, 98, 43, 45, 46, 101, 69]⟩ : ByteArray).extract ((ji11) : Int).toNat ((wrap64 ((ji11) + 1)) : Int).toNat)) (wrap64 (x6_2 + 1))) else (none)) else (none)) else (none)) else (none)) = some r := by first | (rw [hji11] at H; exact H) | (simp only [hji11] at H ⊢; exact H)
         by_cases c12 : 0 ≤ (ji11)
         ·rw [if_pos c12] at H
          have c12b0 := eq_true c12
          have c12b1 : decide (0 ≤ (ji11)) = true := decide_eq_true c12
          clear c12
          by_cases c13 : (ji11) ≤ (wrap64 ((ji11) + 1))
          ·rw [if_pos c13] at H
           have c13b0 := eq_true c13
           have c13b1 : decide ((ji11) ≤ (wrap64 ((ji11) + 1))) = true := decide_eq_true c13
           by_cases c14 : (wrap64 ((ji11) + 1)) ≤ 26
           ·rw [if_pos c14] at H
            have c14b0 := eq_true c14
            have c14b1 : decide ((wrap64 ((ji11) + 1)) ≤ 26) = true := decide_eq_true c14
            by_cases c15 : x5_2.size + ((⟨#[48, 49, 50, 51, 52, 53, 54, 55, 56, 57, 95, 58, 97, 98, 99, 100, 101, 102, 120, 111, 98, 43, 45, 46, 101, 69]⟩ : ByteArray).extract ((ji11) : Int).toNat ((wrap64 ((ji11) + 1)) : Int).toNat).size ≤ 9223372036854775807
            ·rw [if_pos c15] at H
             have c15b0 := eq_true c15
             have c15b1 : decide (x5_2.size + ((⟨#[48, 49, 50, 51, 52, 53, 54, 55, 56, 57, 95, 58, 97, 98, 99, 100, 101, 102, 120, 111, 98, 43, 45, 46, 101, 69]⟩ : ByteArray).extract ((ji11) : Int).toNat ((wrap64 ((ji11) + 1)) : Int).toNat).size ≤ 9223372036854775807) = true := decide_eq_true c15
             try have c15b2 : (9223372036854775807 < x5_2.size + ((⟨#[48, 49, 50, 51, 52, 53, 54, 55, 56, 57, 95, 58, 97, 98, 99, 100, 101, 102, 120, 111, 98, 43, 45, 46, 101, 69]⟩ : ByteArray).extract ((ji11) : Int).toNat ((wrap64 ((ji11) + 1)) : Int).toNat).size) = False := eq_false (Nat.not_lt.2 c15)
             have H' := Aside0.mk H
             clear H
             have p203 : 0 ≤ (x6_2 : Int) := of_decide_eq_true (by first | (with_reducible assumption) | assumption)
             have q203 : x6_2 < (l1.length : Int) := of_decide_eq_true (by first | (with_reducible assumption) | assumption)
             obtain ⟨ad203, e203, hx203_0⟩ := Kd.at_int HR1.out x6_2 p203 q203
             cases e203
             replace hx203_0 := (HB.out.cell (World.block_lt_of_cell? w _ hx203_0)).trans hx203_0
             replace p203 := eq_true p203
             replace q203 := eq_true q203
             have p204 : 0 ≤ (x6_2 : Int) := of_decide_eq_true (by first | (with_reducible assumption) | assumption)
             have q204 : x6_2 < (l1.length : Int) := of_decide_eq_true (by first | (with_reducible assumption) | assumption)
             obtain ⟨ad204, e204, hx204_0⟩ := Kd.at_int HR1.out x6_2 p204 q204
             obtain rfl : ad203 = ad204 := (by injection e204)
             replace hx204_0 := (HB.out.cell (World.block_lt_of_cell? w _ hx204_0)).trans hx204_0
             replace p204 := eq_true p204
             replace q204 := eq_true q204
             go_wp2
             repeat (go_quiet (fail); try go_wp2)
             go_roundg k2
             case measure => have := HJ4.out; have := HK2.out; omega
             case rel => exact ⟨(x5_2 ++ ((⟨#[48, 49, 50, 51, 52, 53, 54, 55, 56, 57, 95, 58, 97, 98, 99, 100, 101, 102, 120, 111, 98, 43, 45, 46, 101, 69]⟩ : ByteArray).extract ((ji11) : Int).toNat ((wrap64 ((ji11) + 1)) : Int).toNat)), (wrap64 (x6_2 + 1)), (by first | rfl | (simp; done) | (simp only [← hji11] <;> (first | rfl | simp)) | (simp [*]; done)), (by first | rfl | (simp; done) | (simp [*]; done) | (simp [wrap64]; done)), H', ⟨by have := HJ4.out; have := HK2.out; omega⟩, ⟨bl⟩⟩
            ·rw [if_neg c15] at H
             exact absurd H (by simp)
           ·rw [if_neg c14] at H
            exact absurd H (by simp)
          ·rw [if_neg c13] at H
           exact absurd H (by simp)
         ·rw [if_neg c12] at H
          exact absurd H (by simp)
        ·rw [if_neg c10] at H
         exact absurd H (by simp)
       ·rw [if_neg c9] at H
        have c9b0 : decide (x6_2 < (l1.length : Int)) = false := decide_eq_false c9
        clear c9
        by_cases c16 : 1 + x5_2.size ≤ 9223372036854775807
        ·rw [if_pos c16] at H
         have c16b0 := eq_true c16
         have c16b1 : decide (1 + x5_2.size ≤ 9223372036854775807) = true := decide_eq_true c16
         try have c16b2 : (9223372036854775807 < 1 + x5_2.size) = False := eq_false (Nat.not_lt.2 c16)
         by_cases c17 : 2 + x5_2.size ≤ 9223372036854775807
         ·rw [if_pos c17] at H
          have c17b0 := eq_true c17
          have c17b1 : decide (2 + x5_2.size ≤ 9223372036854775807) = true := decide_eq_true c17
          try have c17b2 : (9223372036854775807 < 2 + x5_2.size) = False := eq_false (Nat.not_lt.2 c17)
          obtain ⟨y205, hy205⟩ : ∃ y_ : List ByteArray, y_ = (([a0, x5_2, (⟨#[48]⟩ : ByteArray) ++ x5_2, (⟨#[48, 120]⟩ : ByteArray) ++ x5_2, (⟨#[48, 98]⟩ : ByteArray) ++ x5_2, (⟨#[45, 49]⟩ : ByteArray) ++ x5_2, (⟨#[49, 58]⟩ : ByteArray) ++ x5_2] : List ByteArray)) := ⟨_, rfl⟩
          replace H : (targumlaw6_Int11Tells.l1 k2 y205 (y205.length : Int) 0) = some r := by first | (rw [hy205]; with_reducible exact H) | (have H2_ := (Option.bind_some _ _).symm.trans H; rw [hy205]; with_reducible exact H2_) | (have H2_ := (Option.bind_some _ _).symm.trans H; with_reducible exact H2_) | with_reducible exact H | (rw [hy205]; exact H) | exact H
          have Ny205 := Aside0.mk hy205
          clear hy205
          have H' := Aside0.mk H
          clear H
          go_wp2_with (first | ((with_reducible refine gate_dst (N := 57) rfl ?_); (try (refine gate_guard (by rfl) ?_; dsimp only)); refine Kd.R_lit Kd.string _ 9 ?hg (N := 57) ?hd (xs := ([a0, x5_2, (⟨#[48]⟩ : ByteArray) ++ x5_2, (⟨#[48, 120]⟩ : ByteArray) ++ x5_2, (⟨#[48, 98]⟩ : ByteArray) ++ x5_2, (⟨#[45, 49]⟩ : ByteArray) ++ x5_2, (⟨#[49, 58]⟩ : ByteArray) ++ x5_2] : List ByteArray)) (inner := [.string a0, .string x5_2, .string ((⟨#[48]⟩ : ByteArray) ++ x5_2), .string ((⟨#[48, 120]⟩ : ByteArray) ++ x5_2), .string ((⟨#[48, 98]⟩ : ByteArray) ++ x5_2), .string ((⟨#[45, 49]⟩ : ByteArray) ++ x5_2), .string ((⟨#[49, 58]⟩ : ByteArray) ++ x5_2)]) (ok := fun _ => True) (okp := fun _ => True) ?hr ?hp (fun _ hk => hk) trivial (Below.refl _ _) (Nat.le_refl _) (by simp) ?_; (case hd => rfl); (case hg => rfl); (case hr => first | (go_simp; done) | (go_simp; rfl)); (case hp => exact (Reps.one (show Kd.M Kd.string _ _ _ a0 [.string a0] from rfl) (Reps.one (show Kd.M Kd.string _ _ _ x5_2 [.string x5_2] from rfl) (Reps.one (show Kd.M Kd.string _ _ _ ((⟨#[48]⟩ : ByteArray) ++ x5_2) [.string ((⟨#[48]⟩ : ByteArray) ++ x5_2)] from rfl) (Reps.one (show Kd.M Kd.string _ _ _ ((⟨#[48, 120]⟩ : ByteArray) ++ x5_2) [.string ((⟨#[48, 120]⟩ : ByteArray) ++ x5_2)] from rfl) (Reps.one (show Kd.M Kd.string _ _ _ ((⟨#[48, 98]⟩ : ByteArray) ++ x5_2) [.string ((⟨#[48, 98]⟩ : ByteArray) ++ x5_2)] from rfl) (Reps.one (show Kd.M Kd.string _ _ _ ((⟨#[45, 49]⟩ : ByteArray) ++ x5_2) [.string ((⟨#[45, 49]⟩ : ByteArray) ++ x5_2)] from rfl) (Reps.one (show Kd.M Kd.string _ _ _ ((⟨#[49, 58]⟩ : ByteArray) ++ x5_2) [.string ((⟨#[49, 58]⟩ : ByteArray) ++ x5_2)] from rfl) (Reps.none _ _))))))))); intro v206 w18 ho19 hb hg_ hnew_; clear hg_ hnew_; (first | rw [← Ny205.out] at ho19 | (simp only [Int.reduceToNat] at ho19; rw [← Ny205.out] at ho19)); have n0_ := Aside0.mk (Kd.R_lower ho19 (below_size bl)); have n1_ := Aside0.mk (below_step bl hb); clear HB; have HO207 := n0_; have HB := n1_; clear n0_ n1_; clear hb ho19; obtain ⟨Ao20, co20, eo20⟩ := Kd.R_slice HO207.out; subst eo20))
          repeat (go_quiet (first | ((with_reducible refine gate_dst (N := 57) rfl ?_); (try (refine gate_guard (by rfl) ?_; dsimp only)); refine Kd.R_lit Kd.string _ 9 ?hg (N := 57) ?hd (xs := ([a0, x5_2, (⟨#[48]⟩ : ByteArray) ++ x5_2, (⟨#[48, 120]⟩ : ByteArray) ++ x5_2, (⟨#[48, 98]⟩ : ByteArray) ++ x5_2, (⟨#[45, 49]⟩ : ByteArray) ++ x5_2, (⟨#[49, 58]⟩ : ByteArray) ++ x5_2] : List ByteArray)) (inner := [.string a0, .string x5_2, .string ((⟨#[48]⟩ : ByteArray) ++ x5_2), .string ((⟨#[48, 120]⟩ : ByteArray) ++ x5_2), .string ((⟨#[48, 98]⟩ : ByteArray) ++ x5_2), .string ((⟨#[45, 49]⟩ : ByteArray) ++ x5_2), .string ((⟨#[49, 58]⟩ : ByteArray) ++ x5_2)]) (ok := fun _ => True) (okp := fun _ => True) ?hr ?hp (fun _ hk => hk) trivial (Below.refl _ _) (Nat.le_refl _) (by simp) ?_; (case hd => rfl); (case hg => rfl); (case hr => first | (go_simp; done) | (go_simp; rfl)); (case hp => exact (Reps.one (show Kd.M Kd.string _ _ _ a0 [.string a0] from rfl) (Reps.one (show Kd.M Kd.string _ _ _ x5_2 [.string x5_2] from rfl) (Reps.one (show Kd.M Kd.string _ _ _ ((⟨#[48]⟩ : ByteArray) ++ x5_2) [.string ((⟨#[48]⟩ : ByteArray) ++ x5_2)] from rfl) (Reps.one (show Kd.M Kd.string _ _ _ ((⟨#[48, 120]⟩ : ByteArray) ++ x5_2) [.string ((⟨#[48, 120]⟩ : ByteArray) ++ x5_2)] from rfl) (Reps.one (show Kd.M Kd.string _ _ _ ((⟨#[48, 98]⟩ : ByteArray) ++ x5_2) [.string ((⟨#[48, 98]⟩ : ByteArray) ++ x5_2)] from rfl) (Reps.one (show Kd.M Kd.string _ _ _ ((⟨#[45, 49]⟩ : ByteArray) ++ x5_2) [.string ((⟨#[45, 49]⟩ : ByteArray) ++ x5_2)] from rfl) (Reps.one (show Kd.M Kd.string _ _ _ ((⟨#[49, 58]⟩ : ByteArray) ++ x5_2) [.string ((⟨#[49, 58]⟩ : ByteArray) ++ x5_2)] from rfl) (Reps.none _ _))))))))); intro v206 w18 ho19 hb hg_ hnew_; clear hg_ hnew_; (first | rw [← Ny205.out] at ho19 | (simp only [Int.reduceToNat] at ho19; rw [← Ny205.out] at ho19)); have n0_ := Aside0.mk (Kd.R_lower ho19 (below_size bl)); have n1_ := Aside0.mk (below_step bl hb); clear HB; have HO207 := n0_; have HB := n1_; clear n0_ n1_; clear hb ho19; obtain ⟨Ao20, co20, eo20⟩ := Kd.R_slice HO207.out; subst eo20)); try go_wp2_with (first | ((with_reducible refine gate_dst (N := 57) rfl ?_); (try (refine gate_guard (by rfl) ?_; dsimp only)); refine Kd.R_lit Kd.string _ 9 ?hg (N := 57) ?hd (xs := ([a0, x5_2, (⟨#[48]⟩ : ByteArray) ++ x5_2, (⟨#[48, 120]⟩ : ByteArray) ++ x5_2, (⟨#[48, 98]⟩ : ByteArray) ++ x5_2, (⟨#[45, 49]⟩ : ByteArray) ++ x5_2, (⟨#[49, 58]⟩ : ByteArray) ++ x5_2] : List ByteArray)) (inner := [.string a0, .string x5_2, .string ((⟨#[48]⟩ : ByteArray) ++ x5_2), .string ((⟨#[48, 120]⟩ : ByteArray) ++ x5_2), .string ((⟨#[48, 98]⟩ : ByteArray) ++ x5_2), .string ((⟨#[45, 49]⟩ : ByteArray) ++ x5_2), .string ((⟨#[49, 58]⟩ : ByteArray) ++ x5_2)]) (ok := fun _ => True) (okp := fun _ => True) ?hr ?hp (fun _ hk => hk) trivial (Below.refl _ _) (Nat.le_refl _) (by simp) ?_; (case hd => rfl); (case hg => rfl); (case hr => first | (go_simp; done) | (go_simp; rfl)); (case hp => exact (Reps.one (show Kd.M Kd.string _ _ _ a0 [.string a0] from rfl) (Reps.one (show Kd.M Kd.string _ _ _ x5_2 [.string x5_2] from rfl) (Reps.one (show Kd.M Kd.string _ _ _ ((⟨#[48]⟩ : ByteArray) ++ x5_2) [.string ((⟨#[48]⟩ : ByteArray) ++ x5_2)] from rfl) (Reps.one (show Kd.M Kd.string _ _ _ ((⟨#[48, 120]⟩ : ByteArray) ++ x5_2) [.string ((⟨#[48, 120]⟩ : ByteArray) ++ x5_2)] from rfl) (Reps.one (show Kd.M Kd.string _ _ _ ((⟨#[48, 98]⟩ : ByteArray) ++ x5_2) [.string ((⟨#[48, 98]⟩ : ByteArray) ++ x5_2)] from rfl) (Reps.one (show Kd.M Kd.string _ _ _ ((⟨#[45, 49]⟩ : ByteArray) ++ x5_2) [.string ((⟨#[45, 49]⟩ : ByteArray) ++ x5_2)] from rfl) (Reps.one (show Kd.M Kd.string _ _ _ ((⟨#[49, 58]⟩ : ByteArray) ++ x5_2) [.string ((⟨#[49, 58]⟩ : ByteArray) ++ x5_2)] from rfl) (Reps.none _ _))))))))); intro v206 w18 ho19 hb hg_ hnew_; clear hg_ hnew_; (first | rw [← Ny205.out] at ho19 | (simp only [Int.reduceToNat] at ho19; rw [← Ny205.out] at ho19)); have n0_ := Aside0.mk (Kd.R_lower ho19 (below_size bl)); have n1_ := Aside0.mk (below_step bl hb); clear HB; have HO207 := n0_; have HB := n1_; clear n0_ n1_; clear hb ho19; obtain ⟨Ao20, co20, eo20⟩ := Kd.R_slice HO207.out; subst eo20)))
          go_loopg [59] k2 (fun kq v59 w' => ∃ (x59_3 : Int), v59 = .int .i64 x59_3 ∧ Aside0 (targumlaw6_Int11Tells.l1 kq y205 (y205.length : Int) x59_3 = some r) ∧ Aside0 (kq ≤ k2) ∧ Aside0 (Kd.R Kd.string 9 w' w.heap.size (fun _ => True) (.slice Ao20 y205.length co20) y205) ∧ Aside0 (Below w.heap.size w w'))
          case atStart => exact ⟨(0), (by first | rfl | (simp; done) | (simp [*]; done) | (simp [wrap64]; done)), H', ⟨Nat.le_refl _⟩, ⟨by (with_reducible repeat (first | apply Kd.R_alloc | apply Kd.R_drewN | apply Kd.R_drew)); exact HO207.out⟩, ⟨bl⟩⟩
          case round =>
           clear H'
           try clear c1; try clear p2; try clear q2; try clear hx2; try clear c4; try clear c5; try clear p6; try clear c7; try clear c7b0; try clear c7b1; try clear c8; try clear c9; try clear c9b0; try clear c10; try clear c10b0; try clear c12; try clear c12b0; try clear c12b1; try clear c13; try clear c13b0; try clear c13b1; try clear c14; try clear c14b0; try clear c14b1; try clear c15; try clear c15b0; try clear c15b1; try clear c15b2; try clear c16; try clear c16b0; try clear c16b1; try clear c16b2; try clear c17; try clear c17b0; try clear c17b1; try clear c17b2; try clear p20; try clear q20; try clear hx20; try clear hx203_0; try clear hx204_0; try clear p2; try clear p203; try clear p204; try clear q203; try clear q204
           obtain ⟨x59_3, rfl, HA, HK3, HO_57, HB⟩ := hrel
           cases gk with
           | zero => exact absurd HA.out (by simp [targumlaw6_Int11Tells.l1])
           | succ k3 =>
            have H := HA.out
            clear HA
            simp only [targumlaw6_Int11Tells.l1] at H
            by_cases c21 : x59_3 < (y205.length : Int)
            ·rw [if_pos c21] at H
             have c21b0 : decide (x59_3 < (y205.length : Int)) = true := decide_eq_true c21
             clear c21
             by_cases c22 : 0 ≤ x59_3
             ·rw [if_pos c22] at H
              have c22b0 : decide (0 ≤ x59_3) = true := decide_eq_true c22
              clear c22
              by_cases c23 : x59_3 < (y205.length : Int)
              ·rw [if_pos c23] at H
               have c23b0 : decide (x59_3 < (y205.length : Int)) = true := decide_eq_true c23
               clear c23
               replace H := Option.bind_eq_some_iff.mp H
               obtain ⟨⟨t209, t210⟩, A240, H⟩ := H
               replace H : ((targumref6_Int11.f k3 (rdOf ByteArray.empty y205 x59_3)).bind fun bt211 => (if t209.toList = bt211.1.toList then (if (t210 != (decide (bt211.2 > 0))) = true then (some false) else ((int11_Is.f (rdOf ByteArray.empty y205 x59_3)).bind fun t213 => (if (t213 != t210) = true then (some false) else ((int11_Form.f (rdOf ByteArray.empty y205 x59_3)).bind fun t214 => (if t214 = bt211.2 then (targumlaw6_Int11Tells.l1 k3 y205 (y205.length : Int) (wrap64 (x59_3 + 1))) else (some false)))))) else (some false))) = some r := H
               have A24 := Aside0.mk A240
               clear A240
               replace H := Option.bind_eq_some_iff.mp H
               obtain ⟨⟨t211, t212⟩, A250, H⟩ := H
               replace H : (if t209.toList = t211.toList then (if (t210 != (decide (t212 > 0))) = true then (some false) else ((int11_Is.f (rdOf ByteArray.empty y205 x59_3)).bind fun t213 => (if (t213 != t210) = true then (some false) else ((int11_Form.f (rdOf ByteArray.empty y205 x59_3)).bind fun t214 => (if t214 = t212 then (targumlaw6_Int11Tells.l1 k3 y205 (y205.length : Int) (wrap64 (x59_3 + 1))) else (some false)))))) else (some false)) = some r := H
               have A25 := Aside0.mk A250
               clear A250
               refine Classical.byCases (p := (t209.toList = t211.toList)) (fun c26 => ?x14) (fun c26 => ?y14)
               case' x14 =>
                rw [if_pos c26] at H
                have c26b0 : (t209.toList == t211.toList) = true := beq_iff_eq.mpr c26
                have c26b1 : (t209.toList != t211.toList) = false := bne_eq_false_iff_eq.mpr c26
                clear c26
                refine Classical.byCases (p := ((t210 != (decide (t212 > 0))) = true)) (fun c27 => ?x15) (fun c27 => ?y15)
                case' x15 =>
                 rw [if_pos c27] at H
                 have c27b0 : (t210 != (decide (t212 > 0))) = true := c27
                 (try (have c27b1 : decide (t210 = (decide (t212 > 0))) = false := by simpa using c27))
                 (try (have c27b2 : (t210 == (decide (t212 > 0))) = false := by simpa using c27))
                 (try (have c27b3 : ¬ (t210 = (decide (t212 > 0))) := by simpa using c27))
                 clear c27
                 obtain rfl := Option.some.inj H
                 have p208 : 0 ≤ (x59_3 : Int) := of_decide_eq_true (by first | (with_reducible assumption) | assumption)
                 have q208 : x59_3 < (y205.length : Int) := of_decide_eq_true (by first | (with_reducible assumption) | assumption)
                 obtain ⟨ad208, e208, hx208_0⟩ := Kd.at_string (Kd.R_reads' HO_57.out).2.2 x59_3 p208 q208
                 cases e208
                 replace p208 := eq_true p208
                 replace q208 := eq_true q208
                 go_wp2_with (first | (go_at_call 13; (try (rename_i hK_; simp only [List.append] at hK_)); (with_reducible refine (int11_Of.calls k3 (rdOf ByteArray.empty y205 x59_3) t209 t210 _ ?side1 A24.out).mono ?_); (case side1 => exact Go.Proofs.YtkijneohhilboaaDoor.PIT.Tabs_below HG.out bl); rintro e w28 ⟨rfl, hb⟩; have n0_ := Aside0.mk (Kd.R_below (by (with_reducible repeat (first | apply Kd.R_alloc | apply Kd.R_drewN | apply Kd.R_drew)); exact HO_57.out) hb); have n1_ := Aside0.mk (below_step bl hb); clear HO_57; clear HB; have HO_57 := n0_; have HB := n1_; clear n0_ n1_; (try clear hb); (try clear hb2); (try clear hk); (try clear hi)) | (go_at_call 15; (try (rename_i hK_; simp only [List.append] at hK_)); (with_reducible refine (targumref6_Int11.calls k3 (rdOf ByteArray.empty y205 x59_3) t211 t212 _ A25.out).mono ?_); rintro e w29 ⟨rfl, hb⟩; have n0_ := Aside0.mk (Kd.R_below (by (with_reducible repeat (first | apply Kd.R_alloc | apply Kd.R_drewN | apply Kd.R_drew)); exact HO_57.out) hb); have n1_ := Aside0.mk (below_step bl hb); clear HO_57; clear HB; have HO_57 := n0_; have HB := n1_; clear n0_ n1_; (try clear hb); (try clear hb2); (try clear hk); (try clear hi)))
                 skip
                case' y15 =>
                 rw [if_neg c27] at H
                 have c27b0 : (t210 != (decide (t212 > 0))) = false := by simpa using c27
                 (try (have c27b1 : decide (t210 = (decide (t212 > 0))) = true := by simpa using c27))
                 (try (have c27b2 : (t210 == (decide (t212 > 0))) = true := by simpa using c27))
                 clear c27
                 replace H := Option.bind_eq_some_iff.mp H
                 obtain ⟨t213, A300, H⟩ := H
                 replace H : (if (t213 != t210) = true then (some false) else ((int11_Form.f (rdOf ByteArray.empty y205 x59_3)).bind fun t214 => (if t214 = t212 then (targumlaw6_Int11Tells.l1 k3 y205 (y205.length : Int) (wrap64 (x59_3 + 1))) else (some false)))) = some r := H
                 have A30 := Aside0.mk A300
                 clear A300
                 refine Classical.byCases (p := ((t213 != t210) = true)) (fun c31 => ?x16) (fun c31 => ?y16)
                 case' x16 =>
                  rw [if_pos c31] at H
                  have c31b0 : (t213 != t210) = true := c31
                  (try (have c31b1 : decide (t213 = t210) = false := by simpa using c31))
                  (try (have c31b2 : (t213 == t210) = false := by simpa using c31))
                  (try (have c31b3 : ¬ (t213 = t210) := by simpa using c31))
                  clear c31
                  obtain rfl := Option.some.inj H
                  have p208 : 0 ≤ (x59_3 : Int) := of_decide_eq_true (by first | (with_reducible assumption) | assumption)
                  have q208 : x59_3 < (y205.length : Int) := of_decide_eq_true (by first | (with_reducible assumption) | assumption)
                  obtain ⟨ad208, e208, hx208_0⟩ := Kd.at_string (Kd.R_reads' HO_57.out).2.2 x59_3 p208 q208
                  cases e208
                  replace p208 := eq_true p208
                  replace q208 := eq_true q208
                  go_wp2_with (first | (go_at_call 13; (try (rename_i hK_; simp only [List.append] at hK_)); (with_reducible refine (int11_Of.calls k3 (rdOf ByteArray.empty y205 x59_3) t209 t210 _ ?side1 A24.out).mono ?_); (case side1 => exact Go.Proofs.YtkijneohhilboaaDoor.PIT.Tabs_below HG.out bl); rintro e w32 ⟨rfl, hb⟩; have n0_ := Aside0.mk (Kd.R_below (by (with_reducible repeat (first | apply Kd.R_alloc | apply Kd.R_drewN | apply Kd.R_drew)); exact HO_57.out) hb); have n1_ := Aside0.mk (below_step bl hb); clear HO_57; clear HB; have HO_57 := n0_; have HB := n1_; clear n0_ n1_; (try clear hb); (try clear hb2); (try clear hk); (try clear hi)) | (go_at_call 15; (try (rename_i hK_; simp only [List.append] at hK_)); (with_reducible refine (targumref6_Int11.calls k3 (rdOf ByteArray.empty y205 x59_3) t211 t212 _ A25.out).mono ?_); rintro e w33 ⟨rfl, hb⟩; have n0_ := Aside0.mk (Kd.R_below (by (with_reducible repeat (first | apply Kd.R_alloc | apply Kd.R_drewN | apply Kd.R_drew)); exact HO_57.out) hb); have n1_ := Aside0.mk (below_step bl hb); clear HO_57; clear HB; have HO_57 := n0_; have HB := n1_; clear n0_ n1_; (try clear hb); (try clear hb2); (try clear hk); (try clear hi)) | (go_at_call 16; (try (rename_i hK_; simp only [List.append] at hK_)); (with_reducible refine (int11_Is.calls (rdOf ByteArray.empty y205 x59_3) t213 _ A30.out).mono ?_); rintro e w34 ⟨rfl, hb⟩; have n0_ := Aside0.mk (Kd.R_below (by (with_reducible repeat (first | apply Kd.R_alloc | apply Kd.R_drewN | apply Kd.R_drew)); exact HO_57.out) hb); have n1_ := Aside0.mk (below_step bl hb); clear HO_57; clear HB; have HO_57 := n0_; have HB := n1_; clear n0_ n1_; (try clear hb); (try clear hb2); (try clear hk); (try clear hi)))
                  skip
                 case' y16 =>
                  rw [if_neg c31] at H
                  have c31b0 : (t213 != t210) = false := by simpa using c31
                  (try (have c31b1 : decide (t213 = t210) = true := by simpa using c31))
                  (try (have c31b2 : (t213 == t210) = true := by simpa using c31))
                  clear c31
                  replace H := Option.bind_eq_some_iff.mp H
                  obtain ⟨t214, A350, H⟩ := H
                  replace H : (if t214 = t212 then (targumlaw6_Int11Tells.l1 k3 y205 (y205.length : Int) (wrap64 (x59_3 + 1))) else (some false)) = some r := H
                  have A35 := Aside0.mk A350
                  clear A350
                  refine Classical.byCases (p := (t214 = t212)) (fun c36 => ?x17) (fun c36 => ?y17)
                  case' x17 =>
                   rw [if_pos c36] at H
                   have c36b0 : (t214 == t212) = true := beq_iff_eq.mpr c36
                   have c36b1 : (t214 != t212) = false := bne_eq_false_iff_eq.mpr c36
                   clear c36
                   have H' := Aside0.mk H
                   clear H
                   have p208 : 0 ≤ (x59_3 : Int) := of_decide_eq_true (by first | (with_reducible assumption) | assumption)
                   have q208 : x59_3 < (y205.length : Int) := of_decide_eq_true (by first | (with_reducible assumption) | assumption)
                   obtain ⟨ad208, e208, hx208_0⟩ := Kd.at_string (Kd.R_reads' HO_57.out).2.2 x59_3 p208 q208
                   cases e208
                   replace p208 := eq_true p208
                   replace q208 := eq_true q208
                   go_wp2_with (first | (go_at_call 13; (try (rename_i hK_; simp only [List.append] at hK_)); (with_reducible refine (int11_Of.calls k3 (rdOf ByteArray.empty y205 x59_3) t209 t210 _ ?side1 A24.out).mono ?_); (case side1 => exact Go.Proofs.YtkijneohhilboaaDoor.PIT.Tabs_below HG.out bl); rintro e w37 ⟨rfl, hb⟩; have n0_ := Aside0.mk (Kd.R_below (by (with_reducible repeat (first | apply Kd.R_alloc | apply Kd.R_drewN | apply Kd.R_drew)); exact HO_57.out) hb); have n1_ := Aside0.mk (below_step bl hb); clear HO_57; clear HB; have HO_57 := n0_; have HB := n1_; clear n0_ n1_; (try clear hb); (try clear hb2); (try clear hk); (try clear hi)) | (go_at_call 15; (try (rename_i hK_; simp only [List.append] at hK_)); (with_reducible refine (targumref6_Int11.calls k3 (rdOf ByteArray.empty y205 x59_3) t211 t212 _ A25.out).mono ?_); rintro e w38 ⟨rfl, hb⟩; have n0_ := Aside0.mk (Kd.R_below (by (with_reducible repeat (first | apply Kd.R_alloc | apply Kd.R_drewN | apply Kd.R_drew)); exact HO_57.out) hb); have n1_ := Aside0.mk (below_step bl hb); clear HO_57; clear HB; have HO_57 := n0_; have HB := n1_; clear n0_ n1_; (try clear hb); (try clear hb2); (try clear hk); (try clear hi)) | (go_at_call 16; (try (rename_i hK_; simp only [List.append] at hK_)); (with_reducible refine (int11_Is.calls (rdOf ByteArray.empty y205 x59_3) t213 _ A30.out).mono ?_); rintro e w39 ⟨rfl, hb⟩; have n0_ := Aside0.mk (Kd.R_below (by (with_reducible repeat (first | apply Kd.R_alloc | apply Kd.R_drewN | apply Kd.R_drew)); exact HO_57.out) hb); have n1_ := Aside0.mk (below_step bl hb); clear HO_57; clear HB; have HO_57 := n0_; have HB := n1_; clear n0_ n1_; (try clear hb); (try clear hb2); (try clear hk); (try clear hi)) | (go_at_call 14; (try (rename_i hK_; simp only [List.append] at hK_)); (with_reducible refine (int11_Form.calls (rdOf ByteArray.empty y205 x59_3) t214 _ A35.out).mono ?_); rintro e w40 ⟨rfl, hb⟩; have n0_ := Aside0.mk (Kd.R_below (by (with_reducible repeat (first | apply Kd.R_alloc | apply Kd.R_drewN | apply Kd.R_drew)); exact HO_57.out) hb); have n1_ := Aside0.mk (below_step bl hb); clear HO_57; clear HB; have HO_57 := n0_; have HB := n1_; clear n0_ n1_; (try clear hb); (try clear hb2); (try clear hk); (try clear hi)))
                   repeat (go_quiet (first | (go_at_call 13; (try (rename_i hK_; simp only [List.append] at hK_)); (with_reducible refine (int11_Of.calls k3 (rdOf ByteArray.empty y205 x59_3) t209 t210 _ ?side1 A24.out).mono ?_); (case side1 => exact Go.Proofs.YtkijneohhilboaaDoor.PIT.Tabs_below HG.out bl); rintro e w37 ⟨rfl, hb⟩; have n0_ := Aside0.mk (Kd.R_below (by (with_reducible repeat (first | apply Kd.R_alloc | apply Kd.R_drewN | apply Kd.R_drew)); exact HO_57.out) hb); have n1_ := Aside0.mk (below_step bl hb); clear HO_57; clear HB; have HO_57 := n0_; have HB := n1_; clear n0_ n1_; (try clear hb); (try clear hb2); (try clear hk); (try clear hi)) | (go_at_call 15; (try (rename_i hK_; simp only [List.append] at hK_)); (with_reducible refine (targumref6_Int11.calls k3 (rdOf ByteArray.empty y205 x59_3) t211 t212 _ A25.out).mono ?_); rintro e w38 ⟨rfl, hb⟩; have n0_ := Aside0.mk (Kd.R_below (by (with_reducible repeat (first | apply Kd.R_alloc | apply Kd.R_drewN | apply Kd.R_drew)); exact HO_57.out) hb); have n1_ := Aside0.mk (below_step bl hb); clear HO_57; clear HB; have HO_57 := n0_; have HB := n1_; clear n0_ n1_; (try clear hb); (try clear hb2); (try clear hk); (try clear hi)) | (go_at_call 16; (try (rename_i hK_; simp only [List.append] at hK_)); (with_reducible refine (int11_Is.calls (rdOf ByteArray.empty y205 x59_3) t213 _ A30.out).mono ?_); rintro e w39 ⟨rfl, hb⟩; have n0_ := Aside0.mk (Kd.R_below (by (with_reducible repeat (first | apply Kd.R_alloc | apply Kd.R_drewN | apply Kd.R_drew)); exact HO_57.out) hb); have n1_ := Aside0.mk (below_step bl hb); clear HO_57; clear HB; have HO_57 := n0_; have HB := n1_; clear n0_ n1_; (try clear hb); (try clear hb2); (try clear hk); (try clear hi)) | (go_at_call 14; (try (rename_i hK_; simp only [List.append] at hK_)); (with_reducible refine (int11_Form.calls (rdOf ByteArray.empty y205 x59_3) t214 _ A35.out).mono ?_); rintro e w40 ⟨rfl, hb⟩; have n0_ := Aside0.mk (Kd.R_below (by (with_reducible repeat (first | apply Kd.R_alloc | apply Kd.R_drewN | apply Kd.R_drew)); exact HO_57.out) hb); have n1_ := Aside0.mk (below_step bl hb); clear HO_57; clear HB; have HO_57 := n0_; have HB := n1_; clear n0_ n1_; (try clear hb); (try clear hb2); (try clear hk); (try clear hi))); try go_wp2_with (first | (go_at_call 13; (try (rename_i hK_; simp only [List.append] at hK_)); (with_reducible refine (int11_Of.calls k3 (rdOf ByteArray.empty y205 x59_3) t209 t210 _ ?side1 A24.out).mono ?_); (case side1 => exact Go.Proofs.YtkijneohhilboaaDoor.PIT.Tabs_below HG.out bl); rintro e w37 ⟨rfl, hb⟩; have n0_ := Aside0.mk (Kd.R_below (by (with_reducible repeat (first | apply Kd.R_alloc | apply Kd.R_drewN | apply Kd.R_drew)); exact HO_57.out) hb); have n1_ := Aside0.mk (below_step bl hb); clear HO_57; clear HB; have HO_57 := n0_; have HB := n1_; clear n0_ n1_; (try clear hb); (try clear hb2); (try clear hk); (try clear hi)) | (go_at_call 15; (try (rename_i hK_; simp only [List.append] at hK_)); (with_reducible refine (targumref6_Int11.calls k3 (rdOf ByteArray.empty y205 x59_3) t211 t212 _ A25.out).mono ?_); rintro e w38 ⟨rfl, hb⟩; have n0_ := Aside0.mk (Kd.R_below (by (with_reducible repeat (first | apply Kd.R_alloc | apply Kd.R_drewN | apply Kd.R_drew)); exact HO_57.out) hb); have n1_ := Aside0.mk (below_step bl hb); clear HO_57; clear HB; have HO_57 := n0_; have HB := n1_; clear n0_ n1_; (try clear hb); (try clear hb2); (try clear hk); (try clear hi)) | (go_at_call 16; (try (rename_i hK_; simp only [List.append] at hK_)); (with_reducible refine (int11_Is.calls (rdOf ByteArray.empty y205 x59_3) t213 _ A30.out).mono ?_); rintro e w39 ⟨rfl, hb⟩; have n0_ := Aside0.mk (Kd.R_below (by (with_reducible repeat (first | apply Kd.R_alloc | apply Kd.R_drewN | apply Kd.R_drew)); exact HO_57.out) hb); have n1_ := Aside0.mk (below_step bl hb); clear HO_57; clear HB; have HO_57 := n0_; have HB := n1_; clear n0_ n1_; (try clear hb); (try clear hb2); (try clear hk); (try clear hi)) | (go_at_call 14; (try (rename_i hK_; simp only [List.append] at hK_)); (with_reducible refine (int11_Form.calls (rdOf ByteArray.empty y205 x59_3) t214 _ A35.out).mono ?_); rintro e w40 ⟨rfl, hb⟩; have n0_ := Aside0.mk (Kd.R_below (by (with_reducible repeat (first | apply Kd.R_alloc | apply Kd.R_drewN | apply Kd.R_drew)); exact HO_57.out) hb); have n1_ := Aside0.mk (below_step bl hb); clear HO_57; clear HB; have HO_57 := n0_; have HB := n1_; clear n0_ n1_; (try clear hb); (try clear hb2); (try clear hk); (try clear hi))))
                   go_roundg k3
                   case measure => have := HJ4.out; have := HK2.out; have := HK3.out; omega
                   case rel => exact ⟨(wrap64 (x59_3 + 1)), (by first | rfl | (simp; done) | (simp [*]; done) | (simp [wrap64]; done)), H', ⟨by have := HJ4.out; have := HK2.out; have := HK3.out; omega⟩, ⟨by (with_reducible repeat (first | apply Kd.R_alloc | apply Kd.R_drewN | apply Kd.R_drew)); exact HO_57.out⟩, ⟨bl⟩⟩
                  case' y17 =>
                   rw [if_neg c36] at H
                   have c36b0 : (t214 == t212) = false := beq_eq_false_iff_ne.mpr c36
                   have c36b1 : (t214 != t212) = true := bne_iff_ne.mpr c36
                   obtain rfl := Option.some.inj H
                   have p208 : 0 ≤ (x59_3 : Int) := of_decide_eq_true (by first | (with_reducible assumption) | assumption)
                   have q208 : x59_3 < (y205.length : Int) := of_decide_eq_true (by first | (with_reducible assumption) | assumption)
                   obtain ⟨ad208, e208, hx208_0⟩ := Kd.at_string (Kd.R_reads' HO_57.out).2.2 x59_3 p208 q208
                   cases e208
                   replace p208 := eq_true p208
                   replace q208 := eq_true q208
                   go_wp2_with (first | (go_at_call 13; (try (rename_i hK_; simp only [List.append] at hK_)); (with_reducible refine (int11_Of.calls k3 (rdOf ByteArray.empty y205 x59_3) t209 t210 _ ?side1 A24.out).mono ?_); (case side1 => exact Go.Proofs.YtkijneohhilboaaDoor.PIT.Tabs_below HG.out bl); rintro e w41 ⟨rfl, hb⟩; have n0_ := Aside0.mk (Kd.R_below (by (with_reducible repeat (first | apply Kd.R_alloc | apply Kd.R_drewN | apply Kd.R_drew)); exact HO_57.out) hb); have n1_ := Aside0.mk (below_step bl hb); clear HO_57; clear HB; have HO_57 := n0_; have HB := n1_; clear n0_ n1_; (try clear hb); (try clear hb2); (try clear hk); (try clear hi)) | (go_at_call 15; (try (rename_i hK_; simp only [List.append] at hK_)); (with_reducible refine (targumref6_Int11.calls k3 (rdOf ByteArray.empty y205 x59_3) t211 t212 _ A25.out).mono ?_); rintro e w42 ⟨rfl, hb⟩; have n0_ := Aside0.mk (Kd.R_below (by (with_reducible repeat (first | apply Kd.R_alloc | apply Kd.R_drewN | apply Kd.R_drew)); exact HO_57.out) hb); have n1_ := Aside0.mk (below_step bl hb); clear HO_57; clear HB; have HO_57 := n0_; have HB := n1_; clear n0_ n1_; (try clear hb); (try clear hb2); (try clear hk); (try clear hi)) | (go_at_call 16; (try (rename_i hK_; simp only [List.append] at hK_)); (with_reducible refine (int11_Is.calls (rdOf ByteArray.empty y205 x59_3) t213 _ A30.out).mono ?_); rintro e w43 ⟨rfl, hb⟩; have n0_ := Aside0.mk (Kd.R_below (by (with_reducible repeat (first | apply Kd.R_alloc | apply Kd.R_drewN | apply Kd.R_drew)); exact HO_57.out) hb); have n1_ := Aside0.mk (below_step bl hb); clear HO_57; clear HB; have HO_57 := n0_; have HB := n1_; clear n0_ n1_; (try clear hb); (try clear hb2); (try clear hk); (try clear hi)) | (go_at_call 14; (try (rename_i hK_; simp only [List.append] at hK_)); (with_reducible refine (int11_Form.calls (rdOf ByteArray.empty y205 x59_3) t214 _ A35.out).mono ?_); rintro e w44 ⟨rfl, hb⟩; have n0_ := Aside0.mk (Kd.R_below (by (with_reducible repeat (first | apply Kd.R_alloc | apply Kd.R_drewN | apply Kd.R_drew)); exact HO_57.out) hb); have n1_ := Aside0.mk (below_step bl hb); clear HO_57; clear HB; have HO_57 := n0_; have HB := n1_; clear n0_ n1_; (try clear hb); (try clear hb2); (try clear hk); (try clear hi)))
                   skip
               case' y14 =>
                rw [if_neg c26] at H
                have c26b0 : (t209.toList == t211.toList) = false := beq_eq_false_iff_ne.mpr c26
                have c26b1 : (t209.toList != t211.toList) = true := bne_iff_ne.mpr c26
                obtain rfl := Option.some.inj H
                have p208 : 0 ≤ (x59_3 : Int) := of_decide_eq_true (by first | (with_reducible assumption) | assumption)
                have q208 : x59_3 < (y205.length : Int) := of_decide_eq_true (by first | (with_reducible assumption) | assumption)
                obtain ⟨ad208, e208, hx208_0⟩ := Kd.at_string (Kd.R_reads' HO_57.out).2.2 x59_3 p208 q208
                cases e208
                replace p208 := eq_true p208
                replace q208 := eq_true q208
                go_wp2_with (first | (go_at_call 13; (try (rename_i hK_; simp only [List.append] at hK_)); (with_reducible refine (int11_Of.calls k3 (rdOf ByteArray.empty y205 x59_3) t209 t210 _ ?side1 A24.out).mono ?_); (case side1 => exact Go.Proofs.YtkijneohhilboaaDoor.PIT.Tabs_below HG.out bl); rintro e w45 ⟨rfl, hb⟩; have n0_ := Aside0.mk (Kd.R_below (by (with_reducible repeat (first | apply Kd.R_alloc | apply Kd.R_drewN | apply Kd.R_drew)); exact HO_57.out) hb); have n1_ := Aside0.mk (below_step bl hb); clear HO_57; clear HB; have HO_57 := n0_; have HB := n1_; clear n0_ n1_; (try clear hb); (try clear hb2); (try clear hk); (try clear hi)) | (go_at_call 15; (try (rename_i hK_; simp only [List.append] at hK_)); (with_reducible refine (targumref6_Int11.calls k3 (rdOf ByteArray.empty y205 x59_3) t211 t212 _ A25.out).mono ?_); rintro e w46 ⟨rfl, hb⟩; have n0_ := Aside0.mk (Kd.R_below (by (with_reducible repeat (first | apply Kd.R_alloc | apply Kd.R_drewN | apply Kd.R_drew)); exact HO_57.out) hb); have n1_ := Aside0.mk (below_step bl hb); clear HO_57; clear HB; have HO_57 := n0_; have HB := n1_; clear n0_ n1_; (try clear hb); (try clear hb2); (try clear hk); (try clear hi)))
                skip
               case x15 | x16 | y16 | y14 =>
                as_aux_lemma =>
                 repeat (go_quiet (first | (go_at_call 13; (try (rename_i hK_; simp only [List.append] at hK_)); (with_reducible refine (int11_Of.calls _ _ _ _ _ ?side1 A24.out).mono ?_); (case side1 => exact Go.Proofs.YtkijneohhilboaaDoor.PIT.Tabs_below HG.out bl); rintro e w41 ⟨rfl, hb⟩; have n0_ := Aside0.mk (Kd.R_below (by (with_reducible repeat (first | apply Kd.R_alloc | apply Kd.R_drewN | apply Kd.R_drew)); exact HO_57.out) hb); have n1_ := Aside0.mk (below_step bl hb); clear HO_57; clear HB; have HO_57 := n0_; have HB := n1_; clear n0_ n1_; (try clear hb); (try clear hb2); (try clear hk); (try clear hi)) | (go_at_call 15; (try (rename_i hK_; simp only [List.append] at hK_)); (with_reducible refine (targumref6_Int11.calls _ _ _ _ _ A25.out).mono ?_); rintro e w42 ⟨rfl, hb⟩; have n0_ := Aside0.mk (Kd.R_below (by (with_reducible repeat (first | apply Kd.R_alloc | apply Kd.R_drewN | apply Kd.R_drew)); exact HO_57.out) hb); have n1_ := Aside0.mk (below_step bl hb); clear HO_57; clear HB; have HO_57 := n0_; have HB := n1_; clear n0_ n1_; (try clear hb); (try clear hb2); (try clear hk); (try clear hi)) | (go_at_call 16; (try (rename_i hK_; simp only [List.append] at hK_)); (with_reducible refine (int11_Is.calls _ _ _ A30.out).mono ?_); rintro e w43 ⟨rfl, hb⟩; have n0_ := Aside0.mk (Kd.R_below (by (with_reducible repeat (first | apply Kd.R_alloc | apply Kd.R_drewN | apply Kd.R_drew)); exact HO_57.out) hb); have n1_ := Aside0.mk (below_step bl hb); clear HO_57; clear HB; have HO_57 := n0_; have HB := n1_; clear n0_ n1_; (try clear hb); (try clear hb2); (try clear hk); (try clear hi)) | (go_at_call 14; (try (rename_i hK_; simp only [List.append] at hK_)); (with_reducible refine (int11_Form.calls _ _ _ A35.out).mono ?_); rintro e w44 ⟨rfl, hb⟩; have n0_ := Aside0.mk (Kd.R_below (by (with_reducible repeat (first | apply Kd.R_alloc | apply Kd.R_drewN | apply Kd.R_drew)); exact HO_57.out) hb); have n1_ := Aside0.mk (below_step bl hb); clear HO_57; clear HB; have HO_57 := n0_; have HB := n1_; clear n0_ n1_; (try clear hb); (try clear hb2); (try clear hk); (try clear hi))); try go_wp2_with (first | (go_at_call 13; (try (rename_i hK_; simp only [List.append] at hK_)); (with_reducible refine (int11_Of.calls _ _ _ _ _ ?side1 A24.out).mono ?_); (case side1 => exact Go.Proofs.YtkijneohhilboaaDoor.PIT.Tabs_below HG.out bl); rintro e w41 ⟨rfl, hb⟩; have n0_ := Aside0.mk (Kd.R_below (by (with_reducible repeat (first | apply Kd.R_alloc | apply Kd.R_drewN | apply Kd.R_drew)); exact HO_57.out) hb); have n1_ := Aside0.mk (below_step bl hb); clear HO_57; clear HB; have HO_57 := n0_; have HB := n1_; clear n0_ n1_; (try clear hb); (try clear hb2); (try clear hk); (try clear hi)) | (go_at_call 15; (try (rename_i hK_; simp only [List.append] at hK_)); (with_reducible refine (targumref6_Int11.calls _ _ _ _ _ A25.out).mono ?_); rintro e w42 ⟨rfl, hb⟩; have n0_ := Aside0.mk (Kd.R_below (by (with_reducible repeat (first | apply Kd.R_alloc | apply Kd.R_drewN | apply Kd.R_drew)); exact HO_57.out) hb); have n1_ := Aside0.mk (below_step bl hb); clear HO_57; clear HB; have HO_57 := n0_; have HB := n1_; clear n0_ n1_; (try clear hb); (try clear hb2); (try clear hk); (try clear hi)) | (go_at_call 16; (try (rename_i hK_; simp only [List.append] at hK_)); (with_reducible refine (int11_Is.calls _ _ _ A30.out).mono ?_); rintro e w43 ⟨rfl, hb⟩; have n0_ := Aside0.mk (Kd.R_below (by (with_reducible repeat (first | apply Kd.R_alloc | apply Kd.R_drewN | apply Kd.R_drew)); exact HO_57.out) hb); have n1_ := Aside0.mk (below_step bl hb); clear HO_57; clear HB; have HO_57 := n0_; have HB := n1_; clear n0_ n1_; (try clear hb); (try clear hb2); (try clear hk); (try clear hi)) | (go_at_call 14; (try (rename_i hK_; simp only [List.append] at hK_)); (with_reducible refine (int11_Form.calls _ _ _ A35.out).mono ?_); rintro e w44 ⟨rfl, hb⟩; have n0_ := Aside0.mk (Kd.R_below (by (with_reducible repeat (first | apply Kd.R_alloc | apply Kd.R_drewN | apply Kd.R_drew)); exact HO_57.out) hb); have n1_ := Aside0.mk (below_step bl hb); clear HO_57; clear HB; have HO_57 := n0_; have HB := n1_; clear n0_ n1_; (try clear hb); (try clear hb2); (try clear hk); (try clear hi))))
                 go_ret
                 exact ⟨by first | rfl | (simp [errW_none, errW_some] <;> rfl) | (simp [*, errW_none, errW_some] <;> rfl), bl⟩
              ·rw [if_neg c23] at H
               exact absurd H (by simp)
             ·rw [if_neg c22] at H
              exact absurd H (by simp)
            ·rw [if_neg c21] at H
             have c21b0 : decide (x59_3 < (y205.length : Int)) = false := decide_eq_false c21
             clear c21
             obtain rfl := Option.some.inj H
             go_wp2
             repeat (go_quiet (fail); try go_wp2)
             go_ret
             exact ⟨by first | rfl | (simp [errW_none, errW_some] <;> rfl) | (simp [*, errW_none, errW_some] <;> rfl), bl⟩
         ·rw [if_neg c17] at H
          exact absurd H (by simp)
        ·rw [if_neg c16] at H
         exact absurd H (by simp)
 ·replace c4 := Bool.eq_false_iff.mpr c4
  subst c4
  have H1 : (some false) = some r := by rw [if_neg (show ¬ (false = true) by decide)] at H; exact H
  clear H
  have H := H1
  clear H1
  obtain rfl := Option.some.inj H
  go_enter Tryd.func5, Tryd.ntmps5
  go_wp2_with (first | (go_at_call 10; (try (rename_i hK_; simp only [List.append] at hK_)); (with_reducible refine (targumlaw6_known.calls k  false _ ?side1 A3.out).mono ?_); (case side1 => exact Go.Proofs.YtkijneohhilboaaDoor.PIT.Tabs_below HG.out bl); rintro e w47 ⟨rfl, hb⟩; have n0_ := Aside0.mk (below_step bl hb); clear HB; have HB := n0_; clear n0_; (try clear hb); (try clear hb2); (try clear hk); (try clear hi)))
  repeat (go_quiet (first | (go_at_call 10; (try (rename_i hK_; simp only [List.append] at hK_)); (with_reducible refine (targumlaw6_known.calls k  false _ ?side1 A3.out).mono ?_); (case side1 => exact Go.Proofs.YtkijneohhilboaaDoor.PIT.Tabs_below HG.out bl); rintro e w47 ⟨rfl, hb⟩; have n0_ := Aside0.mk (below_step bl hb); clear HB; have HB := n0_; clear n0_; (try clear hb); (try clear hb2); (try clear hk); (try clear hi))); try go_wp2_with (first | (go_at_call 10; (try (rename_i hK_; simp only [List.append] at hK_)); (with_reducible refine (targumlaw6_known.calls k  false _ ?side1 A3.out).mono ?_); (case side1 => exact Go.Proofs.YtkijneohhilboaaDoor.PIT.Tabs_below HG.out bl); rintro e w47 ⟨rfl, hb⟩; have n0_ := Aside0.mk (below_step bl hb); clear HB; have HB := n0_; clear n0_; (try clear hb); (try clear hb2); (try clear hk); (try clear hi))))
  go_ret
  exact ⟨by first | rfl | (simp [errW_none, errW_some] <;> rfl) | (simp [*, errW_none, errW_some] <;> rfl), bl⟩

/-- THE ONE PURE STATEMENT of targumlaw6_Int11Tells: yours. -/
def targumlaw6_Int11Tells.Pure : Prop := ∀ (a0 : ByteArray) (l1 : List Int), a0.size ≤ 140737488351232 → l1.length ≤ maxLen → l1.length * 1 ≤ 140737488351232 → (∀ x ∈ l1, (Lit.int .u8 x).wf = true) → ∃ k, targumlaw6_Int11Tells.f k a0 l1 = some true
theorem targumlaw6_Int11Tells.walk (P : targumlaw6_Int11Tells.Pure) (a0 : ByteArray) (a1 : Option Addr) (len1 cap1 : Nat) (z1 : List Int) (w : World) (w0 : a0.size ≤ 140737488351232) (w1 : (a1 = none ∧ len1 = 0 ∧ cap1 = 0 ∧ z1 = []) ∨ ∃ x, a1 = some x ∧ len1 ≤ cap1 ∧ cap1 ≤ maxLen ∧ z1.length = cap1 ∧ (∀ i, i < z1.length → w.cell? (x.add i) = some (.int .u8 (z1.getD i 0))) ∧ ∀ n ∈ z1, (Lit.int .u8 n).wf = true) (y1 : len1 * 1 ≤ 140737488351232) (hG : Go.Proofs.YtkijneohhilboaaDoor.PIT.Tabs w) :
  Calls Tryd.prog 5 #[.string a0, .slice a1 len1 cap1] w fun e w' => e = .returned (.bool true) ∧ Below w.heap.size w w' := by
 obtain ⟨l1, rfl, hr1, hm1, hw1, hc1⟩ := ReadsInt.ofRowC w1
 obtain ⟨k, h⟩ := P a0 l1 w0 hm1 y1 hw1
 refine (targumlaw6_Int11Tells.calls k a0 _ _ l1 true w (Kd.C_of_reads (d := (0 : Int)) (h1 := fun _ => rfl) hr1) hc1 hG h).mono ?_
 rintro e w' ⟨rfl, hd⟩
 exact ⟨rfl, hd⟩

/-! ### targumref4_Text: function 12 -/
def targumref4_Text.l0 : Nat → Int → ByteArray → Option (ByteArray)
 | 0, _, _ => none
 | k + 1, x0, x3 => (some (([(wrap64 (48 + (Int.tmod x0 10))) % 256] : List Int) : List Int)).bind fun y215 => (if (strOfNums y215).size + x3.size ≤ 9223372036854775807 then (if (wrap64 (Int.tdiv x0 10)) = 0 then (some ((strOfNums y215) ++ x3)) else (targumref4_Text.l0 k (wrap64 (Int.tdiv x0 10)) ((strOfNums y215) ++ x3))) else (none))
def targumref4_Text.f (k : Nat) (a0 : Int) : Option (ByteArray) := targumref4_Text.l0 k a0 (⟨#[]⟩ : ByteArray)
theorem targumref4_Text.mono_l : ∀ k, (∀ y0 y1, LeO (targumref4_Text.l0 k y0 y1) (targumref4_Text.l0 (k + 1) y0 y1))
 | 0 => fun _ _ r h => by simp [targumref4_Text.l0] at h
 | k + 1 => by
  have ih0 := targumref4_Text.mono_l k
  ·intro y0 y1
   unfold targumref4_Text.l0
   repeat' first
   | (with_reducible exact ih0 _ _)
   | (with_reducible exact LeO.refl _)
   | (with_reducible exact LeO.none _)
   | (with_reducible refine LeO.ite ?_ ?_)
   | (with_reducible refine LeO.bind ?_ (fun _ => ?_))
   | exact ih0 _ _
   | exact LeO.none _
   | refine LeO.ite ?_ ?_
   | refine LeO.bind ?_ (fun _ => ?_)
theorem targumref4_Text.mono : ∀ a0 k, LeO (targumref4_Text.f k a0) (targumref4_Text.f (k + 1) a0) := by
 intro a0 k
 have ih0 := targumref4_Text.mono_l k
 unfold targumref4_Text.f
 repeat' first
   | (with_reducible exact ih0 _ _)
   | (with_reducible exact LeO.refl _)
   | (with_reducible exact LeO.none _)
   | (with_reducible refine LeO.ite ?_ ?_)
   | (with_reducible refine LeO.bind ?_ (fun _ => ?_))
   | exact ih0 _ _
   | exact LeO.none _
   | refine LeO.ite ?_ ?_
   | refine LeO.bind ?_ (fun _ => ?_)
set_option maxHeartbeats 8000000 in
set_option maxRecDepth 100000 in
theorem targumref4_Text.calls (k : Nat) (a0 : Int) (r : ByteArray) (w : World) (h : targumref4_Text.f k a0 = some r) :
  Calls Tryd.prog 12 #[.int .i64 a0] w fun e w' => e = .returned (.string r) ∧ Below w.heap.size w w' := by
 have HB := Aside0.mk (Below.refl w.heap.size w)
 have H : (targumref4_Text.l0 k a0 (⟨#[]⟩ : ByteArray)) = some r := h
 clear h
 have H' := Aside0.mk H
 clear H
 go_enter Tryd.func12, Tryd.ntmps12
 go_wp2
 go_loopg [0, 3] k (fun kq v0 v3 w' => ∃ (x0_1 : Int) (x3_1 : ByteArray), v0 = .int .i64 x0_1 ∧ v3 = .string x3_1 ∧ Aside0 (targumref4_Text.l0 kq x0_1 x3_1 = some r) ∧ Aside0 (kq ≤ k) ∧ Aside0 (Below w.heap.size w w'))
 case atStart => exact ⟨(a0), ((⟨#[]⟩ : ByteArray)), (by first | rfl | (simp; done) | (simp [*]; done) | (simp [wrap64]; done)), (by first | rfl | (simp; done) | (simp [*]; done) | (simp [wrap64]; done)), H', ⟨Nat.le_refl _⟩, ⟨bl⟩⟩
 case round =>
  clear H'
  try clear c1
  obtain ⟨x0_1, x3_1, rfl, rfl, HA, HK1, HB⟩ := hrel
  cases gk with
  | zero => exact absurd HA.out (by simp [targumref4_Text.l0])
  | succ k1 =>
   have H := HA.out
   clear HA
   simp only [targumref4_Text.l0] at H
   obtain ⟨y215, hy215⟩ : ∃ y_ : List Int, y_ = (([(wrap64 (48 + (Int.tmod x0_1 10))) % 256] : List Int)) := ⟨_, rfl⟩
   replace H : (if (strOfNums y215).size + x3_1.size ≤ 9223372036854775807 then (if (wrap64 (Int.tdiv x0_1 10)) = 0 then (some ((strOfNums y215) ++ x3_1)) else (targumref4_Text.l0 k1 (wrap64 (Int.tdiv x0_1 10)) ((strOfNums y215) ++ x3_1))) else (none)) = some r := by first | (rw [hy215]; with_reducible exact H) | (have H2_ := (Option.bind_some _ _).symm.trans H; rw [hy215]; with_reducible exact H2_) | (have H2_ := (Option.bind_some _ _).symm.trans H; with_reducible exact H2_) | with_reducible exact H | (rw [hy215]; exact H) | exact H
   have Ny215 := Aside0.mk hy215
   clear hy215
   by_cases c2 : (strOfNums y215).size + x3_1.size ≤ 9223372036854775807
   ·rw [if_pos c2] at H
    have c2b0 := eq_true c2
    have c2b1 : decide ((strOfNums y215).size + x3_1.size ≤ 9223372036854775807) = true := decide_eq_true c2
    try have c2b2 : (9223372036854775807 < (strOfNums y215).size + x3_1.size) = False := eq_false (Nat.not_lt.2 c2)
    by_cases c3 : (wrap64 (Int.tdiv x0_1 10)) = 0
    ·rw [if_pos c3] at H
     have c3b0 : ((wrap64 (Int.tdiv x0_1 10)) == 0) = true := beq_iff_eq.mpr c3
     have c3b1 : ((wrap64 (Int.tdiv x0_1 10)) != 0) = false := bne_eq_false_iff_eq.mpr c3
     clear c3
     obtain rfl := Option.some.inj H
     go_wp2_with (first | ((with_reducible refine gate_dst (N := 8) rfl ?_); refine Kd.R_lit (Kd.int .u8) _ 5 ?hg (N := 8) ?hd (xs := ([(wrap64 (48 + (Int.tmod x0_1 10))) % 256] : List Int)) (inner := [.int .u8 ((wrap64 (48 + (Int.tmod x0_1 10))) % 256)]) (ok := fun _ => True) (okp := fun _ => True) ?hr ?hp (fun _ hk => hk) trivial (Below.refl _ _) (Nat.le_refl _) (by simp) ?_; (case hd => rfl); (case hg => rfl); (case hr => first | (go_simp; done) | (go_simp; rfl)); (case hp => exact (Reps.one (show Kd.M (Kd.int .u8) _ _ _ ((wrap64 (48 + (Int.tmod x0_1 10))) % 256) [.int .u8 ((wrap64 (48 + (Int.tmod x0_1 10))) % 256)] from rfl) (Reps.none _ _))); intro v216 w4 ho5 hb hg_ hnew_; clear hg_ hnew_; (first | rw [← Ny215.out] at ho5 | (simp only [Int.reduceToNat] at ho5; rw [← Ny215.out] at ho5)); have n0_ := Aside0.mk (Kd.R_lower ho5 (below_size bl)); have n1_ := Aside0.mk (below_step bl hb); clear HB; have HO217 := n0_; have HB := n1_; clear n0_ n1_; clear hb ho5; have hcv6 := own_string (P := Tryd.prog) Tryd.underlying33 Tryd.underlying5 Tryd.underlying9 (Kd.own_of_R HO217.out)))
     go_ret
     exact ⟨by first | rfl | (simp [errW_none, errW_some] <;> rfl) | (simp [*, errW_none, errW_some] <;> rfl), bl⟩
    ·rw [if_neg c3] at H
     have c3b0 : ((wrap64 (Int.tdiv x0_1 10)) == 0) = false := beq_eq_false_iff_ne.mpr c3
     have c3b1 : ((wrap64 (Int.tdiv x0_1 10)) != 0) = true := bne_iff_ne.mpr c3
     have H' := Aside0.mk H
     clear H
     go_wp2_with (first | ((with_reducible refine gate_dst (N := 8) rfl ?_); refine Kd.R_lit (Kd.int .u8) _ 5 ?hg (N := 8) ?hd (xs := ([(wrap64 (48 + (Int.tmod x0_1 10))) % 256] : List Int)) (inner := [.int .u8 ((wrap64 (48 + (Int.tmod x0_1 10))) % 256)]) (ok := fun _ => True) (okp := fun _ => True) ?hr ?hp (fun _ hk => hk) trivial (Below.refl _ _) (Nat.le_refl _) (by simp) ?_; (case hd => rfl); (case hg => rfl); (case hr => first | (go_simp; done) | (go_simp; rfl)); (case hp => exact (Reps.one (show Kd.M (Kd.int .u8) _ _ _ ((wrap64 (48 + (Int.tmod x0_1 10))) % 256) [.int .u8 ((wrap64 (48 + (Int.tmod x0_1 10))) % 256)] from rfl) (Reps.none _ _))); intro v216 w7 ho8 hb hg_ hnew_; clear hg_ hnew_; (first | rw [← Ny215.out] at ho8 | (simp only [Int.reduceToNat] at ho8; rw [← Ny215.out] at ho8)); have n0_ := Aside0.mk (Kd.R_lower ho8 (below_size bl)); have n1_ := Aside0.mk (below_step bl hb); clear HB; have HO217 := n0_; have HB := n1_; clear n0_ n1_; clear hb ho8; have hcv9 := own_string (P := Tryd.prog) Tryd.underlying33 Tryd.underlying5 Tryd.underlying9 (Kd.own_of_R HO217.out)))
     go_roundg k1
     case measure => have := HK1.out; omega
     case rel => exact ⟨(wrap64 (Int.tdiv x0_1 10)), ((strOfNums y215) ++ x3_1), (by first | rfl | (simp; done) | (simp [*]; done) | (simp [wrap64]; done)), (by first | rfl | (simp; done) | (simp [*]; done) | (simp [wrap64]; done)), H', ⟨by have := HK1.out; omega⟩, ⟨bl⟩⟩
   ·rw [if_neg c2] at H
    exact absurd H (by simp)

end Go.Proofs.YtkijneohhilboaaDoor.PI
