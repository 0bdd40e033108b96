/- Written by this session's own program (xprint, made over the kit's print): Lean functions with the same answers as the Go functions, and the proofs of that. Not trusted: Lean checks it. -/
import Derived.Test.YtbjlcipamdgnjaaDoorPNx0
import Derived.Test.YtbjlcipamdgnjaaDoorPNx1
import Derived.Test.YtbjlcipamdgnjaaDoorPNx3
import Derived.Test.YtbjlcipamdgnjaaDoorPNx5
import Derived.Test.YtbjlcipamdgnjaaDoorPNx6
import Derived.Test.YtbjlcipamdgnjaaDoorPNx7
import Derived.Test.YtbjlcipamdgnjaaDoorPNx8
import Derived.Test.YtbjlcipamdgnjaaDoorPNx12
import Derived.Test.YtbjlcipamdgnjaaDoorXW
namespace Go.Proofs.YtbjlcipamdgnjaaDoor.PN
open Go.Proofs.YtbjlcipamdgnjaaDoor.XW Go.RowKit Go.Proofs.YtbjlcipamdgnjaaDoorW.PrintWords Go.Proofs.YtbjlcipamdgnjaaDoorW.PrintLast Go.Proofs.YtbjlcipamdgnjaaDoorW.PrintMore
attribute [local go_sem] max2_int min2_int max_two min_two max_three min_three max_four min_four   -- for this text's walks alone
set_option linter.unusedVariables false
set_option linter.unusedSimpArgs false

attribute [local go_sem high] eqA28
/-! ### targumlaw8_Num12Tells: function 3 -/
mutual
def targumlaw8_Num12Tells.j0 : Nat → ByteArray → List Int → Bool → Option (Bool)
 | 0, _, _, _ => none
 | k + 1, x0, x1, x26 => if x26 = true then (some true) else (targumlaw8_Num12Tells.l0 k x0 x1 (⟨#[]⟩ : ByteArray) 0)
def targumlaw8_Num12Tells.l0 : Nat → ByteArray → List Int → ByteArray → Int → Option (Bool)
 | 0, _, _, _, _ => none
 | k + 1, x0, x1, x5, x6 => if x6 < (x1.length : Int) then (if 0 ≤ x6 then (if 0 ≤ (Int.tmod (wrap64 (rd x1 x6)) 26) then (if (Int.tmod (wrap64 (rd x1 x6)) 26) ≤ (wrap64 ((Int.tmod (wrap64 (rd x1 x6)) 26) + 1)) then (if (wrap64 ((Int.tmod (wrap64 (rd x1 x6)) 26) + 1)) ≤ 26 then (if x5.size + ((⟨#[48, 49, 50, 51, 52, 53, 54, 55, 56, 57, 46, 101, 43, 45, 69, 111, 120, 95, 97, 98, 99, 100, 101, 102, 70, 58]⟩ : ByteArray).extract ((Int.tmod (wrap64 (rd x1 x6)) 26) : Int).toNat ((wrap64 ((Int.tmod (wrap64 (rd x1 x6)) 26) + 1)) : Int).toNat).size ≤ 9223372036854775807 then (targumlaw8_Num12Tells.l0 k x0 x1 (x5 ++ ((⟨#[48, 49, 50, 51, 52, 53, 54, 55, 56, 57, 46, 101, 43, 45, 69, 111, 120, 95, 97, 98, 99, 100, 101, 102, 70, 58]⟩ : ByteArray).extract ((Int.tmod (wrap64 (rd x1 x6)) 26) : Int).toNat ((wrap64 ((Int.tmod (wrap64 (rd x1 x6)) 26) + 1)) : Int).toNat)) (wrap64 (x6 + 1))) else (none)) else (none)) else (none)) else (none)) else (none)) else (if 2 + x5.size ≤ 9223372036854775807 then (if 1 + x5.size ≤ 9223372036854775807 then ((some (([x0, x5, (⟨#[48, 111]⟩ : ByteArray) ++ x5, (⟨#[48, 120]⟩ : ByteArray) ++ x5, (⟨#[49, 101]⟩ : ByteArray) ++ x5, (⟨#[45, 46]⟩ : ByteArray) ++ x5, (⟨#[49, 46]⟩ : ByteArray) ++ x5, (⟨#[43]⟩ : ByteArray) ++ x5] : List ByteArray) : List ByteArray)).bind fun y300 => (targumlaw8_Num12Tells.l1 k y300 (y300.length : Int) 0)) else (none)) else (none))
def targumlaw8_Num12Tells.l1 : Nat → List ByteArray → Int → Int → Option (Bool)
 | 0, _, _, _ => none
 | k + 1, x63, x64, x65 => if x65 < x64 then (if 0 ≤ x65 then (if x65 < (x63.length : Int) then ((num12_Int.f k (rdOf ByteArray.empty x63 x65)).bind fun bt304 => ((targumref6_Int12.f k (rdOf ByteArray.empty x63 x65)).bind fun bt306 => ((num12_Float.f k (rdOf ByteArray.empty x63 x65)).bind fun bt308 => ((targumref6_Float12.f k (rdOf ByteArray.empty x63 x65)).bind fun bt314 => (if bt304.1.toList = bt306.1.toList then (if (bt304.2 != bt306.2) = true then (some false) else (if (!(bt308.1 == bt314.1) || (!(bt308.2.1 == bt314.2.1) || (!(bt308.2.2.1.toList == bt314.2.2.1.toList) || (!(bt308.2.2.2.1.toList == bt314.2.2.2.1.toList))))) = true then (some false) else (if (bt308.2.2.2.2 != bt314.2.2.2.2) = true then (some false) else (targumlaw8_Num12Tells.l1 k x63 x64 (wrap64 (x65 + 1)))))) else (some false)))))) else (none)) else (none)) else (some true)
end
def targumlaw8_Num12Tells.f (k : Nat) (a0 : ByteArray) (l1 : List Int) : Option (Bool) := (targumlaw8_known.f k).bind fun t297 => (if t297 = true then (if (a0.size : Int) > 60 then (targumlaw8_Num12Tells.j0 k a0 l1 true) else (targumlaw8_Num12Tells.j0 k a0 l1 (decide ((l1.length : Int) > 40)))) else (some false))
theorem targumlaw8_Num12Tells.mono_l : ∀ k, (∀ y0 y1 y2, LeO (targumlaw8_Num12Tells.j0 k y0 y1 y2) (targumlaw8_Num12Tells.j0 (k + 1) y0 y1 y2)) ∧ (∀ y0 y1 y2 y3, LeO (targumlaw8_Num12Tells.l0 k y0 y1 y2 y3) (targumlaw8_Num12Tells.l0 (k + 1) y0 y1 y2 y3)) ∧ (∀ y0 y1 y2, LeO (targumlaw8_Num12Tells.l1 k y0 y1 y2) (targumlaw8_Num12Tells.l1 (k + 1) y0 y1 y2))
 | 0 => ⟨fun _ _ _ r h => by simp [targumlaw8_Num12Tells.j0] at h, fun _ _ _ _ r h => by simp [targumlaw8_Num12Tells.l0] at h, fun _ _ _ r h => by simp [targumlaw8_Num12Tells.l1] at h⟩
 | k + 1 => by
  obtain ⟨ih0, ih1, ih2⟩ := targumlaw8_Num12Tells.mono_l k
  refine ⟨?_, ?_, ?_⟩
  ·intro y0 y1 y2
   unfold targumlaw8_Num12Tells.j0
   repeat' first
   | (with_reducible exact ih0 _ _ _)
   | (with_reducible exact ih1 _ _ _ _)
   | (with_reducible exact ih2 _ _ _)
   | (with_reducible exact num12_Float.mono _ _)
   | (with_reducible exact num12_Int.mono _ _)
   | (with_reducible exact targumlaw8_known.mono _)
   | (with_reducible exact targumref6_Float12.mono _ _)
   | (with_reducible exact targumref6_Int12.mono _ _)
   | (with_reducible exact LeO.refl _)
   | (with_reducible exact LeO.none _)
   | (with_reducible refine LeO.ite ?_ ?_)
   | (with_reducible refine LeO.bind ?_ (fun _ => ?_))
   | exact ih0 _ _ _
   | exact ih1 _ _ _ _
   | exact ih2 _ _ _
   | exact num12_Float.mono _ _
   | exact num12_Int.mono _ _
   | exact targumlaw8_known.mono _
   | exact targumref6_Float12.mono _ _
   | exact targumref6_Int12.mono _ _
   | exact LeO.none _
   | refine LeO.ite ?_ ?_
   | refine LeO.bind ?_ (fun _ => ?_)
  ·intro y0 y1 y2 y3
   unfold targumlaw8_Num12Tells.l0
   repeat' first
   | (with_reducible exact ih0 _ _ _)
   | (with_reducible exact ih1 _ _ _ _)
   | (with_reducible exact ih2 _ _ _)
   | (with_reducible exact num12_Float.mono _ _)
   | (with_reducible exact num12_Int.mono _ _)
   | (with_reducible exact targumlaw8_known.mono _)
   | (with_reducible exact targumref6_Float12.mono _ _)
   | (with_reducible exact targumref6_Int12.mono _ _)
   | (with_reducible exact LeO.refl _)
   | (with_reducible exact LeO.none _)
   | (with_reducible refine LeO.ite ?_ ?_)
   | (with_reducible refine LeO.bind ?_ (fun _ => ?_))
   | exact ih0 _ _ _
   | exact ih1 _ _ _ _
   | exact ih2 _ _ _
   | exact num12_Float.mono _ _
   | exact num12_Int.mono _ _
   | exact targumlaw8_known.mono _
   | exact targumref6_Float12.mono _ _
   | exact targumref6_Int12.mono _ _
   | exact LeO.none _
   | refine LeO.ite ?_ ?_
   | refine LeO.bind ?_ (fun _ => ?_)
  ·intro y0 y1 y2
   unfold targumlaw8_Num12Tells.l1
   repeat' first
   | (with_reducible exact ih0 _ _ _)
   | (with_reducible exact ih1 _ _ _ _)
   | (with_reducible exact ih2 _ _ _)
   | (with_reducible exact num12_Float.mono _ _)
   | (with_reducible exact num12_Int.mono _ _)
   | (with_reducible exact targumlaw8_known.mono _)
   | (with_reducible exact targumref6_Float12.mono _ _)
   | (with_reducible exact targumref6_Int12.mono _ _)
   | (with_reducible exact LeO.refl _)
   | (with_reducible exact LeO.none _)
   | (with_reducible refine LeO.ite ?_ ?_)
   | (with_reducible refine LeO.bind ?_ (fun _ => ?_))
   | exact ih0 _ _ _
   | exact ih1 _ _ _ _
   | exact ih2 _ _ _
   | exact num12_Float.mono _ _
   | exact num12_Int.mono _ _
   | exact targumlaw8_known.mono _
   | exact targumref6_Float12.mono _ _
   | exact targumref6_Int12.mono _ _
   | exact LeO.none _
   | refine LeO.ite ?_ ?_
   | refine LeO.bind ?_ (fun _ => ?_)
theorem targumlaw8_Num12Tells.mono : ∀ a0 a1 k, LeO (targumlaw8_Num12Tells.f k a0 a1) (targumlaw8_Num12Tells.f (k + 1) a0 a1) := by
 intro a0 a1 k
 obtain ⟨ih0, ih1, ih2⟩ := targumlaw8_Num12Tells.mono_l k
 unfold targumlaw8_Num12Tells.f
 repeat' first
   | (with_reducible exact ih0 _ _ _)
   | (with_reducible exact ih1 _ _ _ _)
   | (with_reducible exact ih2 _ _ _)
   | (with_reducible exact num12_Float.mono _ _)
   | (with_reducible exact num12_Int.mono _ _)
   | (with_reducible exact targumlaw8_known.mono _)
   | (with_reducible exact targumref6_Float12.mono _ _)
   | (with_reducible exact targumref6_Int12.mono _ _)
   | (with_reducible exact LeO.refl _)
   | (with_reducible exact LeO.none _)
   | (with_reducible refine LeO.ite ?_ ?_)
   | (with_reducible refine LeO.bind ?_ (fun _ => ?_))
   | exact ih0 _ _ _
   | exact ih1 _ _ _ _
   | exact ih2 _ _ _
   | exact num12_Float.mono _ _
   | exact num12_Int.mono _ _
   | exact targumlaw8_known.mono _
   | exact targumref6_Float12.mono _ _
   | exact targumref6_Int12.mono _ _
   | exact LeO.none _
   | refine LeO.ite ?_ ?_
   | refine LeO.bind ?_ (fun _ => ?_)
set_option maxHeartbeats 8000000 in
set_option maxRecDepth 100000 in
theorem targumlaw8_Num12Tells.calls (k : Nat) (a0 : ByteArray) (A1 : Option Addr) (c1 : Nat) (l1 : List Int) (r : Bool) (w : World) (hr1 : Kd.C (Kd.int .u8) w A1 l1.length l1) (hc1 : l1.length ≤ c1) (hG : Go.Proofs.YtbjlcipamdgnjaaDoor.Room.PowTab w) (h : targumlaw8_Num12Tells.f k a0 l1 = some r) :
  Calls Tryd.prog 3 #[.string a0, .slice A1 l1.length c1] w fun e w' => e = .returned (.bool r) ∧ Below w.heap.size w w' := by
 have hu28 := Tryd.underlying28
 have HG := Aside0.mk hG
 clear hG
 have HR1 := Aside0.mk hr1
 have HC1 := Aside0.mk hc1
 clear hr1 hc1
 have HB := Aside0.mk (Below.refl w.heap.size w)
 have H : ((targumlaw8_known.f k).bind fun t297 => (if t297 = true then (if (a0.size : Int) > 60 then (targumlaw8_Num12Tells.j0 k a0 l1 true) else (targumlaw8_Num12Tells.j0 k a0 l1 (decide ((l1.length : Int) > 40)))) else (some false))) = some r := h
 clear h
 replace H := Option.bind_eq_some_iff.mp H
 obtain ⟨t297, A30, H⟩ := H
 replace H : (if t297 = true then (if (a0.size : Int) > 60 then (targumlaw8_Num12Tells.j0 k a0 l1 true) else (targumlaw8_Num12Tells.j0 k a0 l1 (decide ((l1.length : Int) > 40)))) else (some false)) = some r := H
 have A3 := Aside0.mk A30
 clear A30
 by_cases c4 : t297 = true
 ·subst c4
  have H1 : (if (a0.size : Int) > 60 then (targumlaw8_Num12Tells.j0 k a0 l1 true) else (targumlaw8_Num12Tells.j0 k a0 l1 (decide ((l1.length : Int) > 40)))) = some r := by rw [if_pos rfl] at H; exact H
  clear H
  have H := H1
  clear H1
  have HC5 := Aside0.mk H
  clear H
  go_enter Tryd.func3, Tryd.ntmps3
  go_upto_region 3 with (first | (go_at_call 8; (try (rename_i hK_; simp only [List.append] at hK_)); (with_reducible refine (targumlaw8_known.calls k  true _ ?side1 A3.out).mono ?_); (case side1 => exact Go.Proofs.YtbjlcipamdgnjaaDoor.Room.PowTab_below HG.out bl); rintro e w6 ⟨rfl, hb⟩; have n0_ := Aside0.mk (below_step bl hb); clear HB; have HB := n0_; clear n0_; (try clear hb); (try clear hb2); (try clear hk); (try clear hi)))
  repeat (go_quiet (first | (go_at_call 8; (try (rename_i hK_; simp only [List.append] at hK_)); (with_reducible refine (targumlaw8_known.calls k  true _ ?side1 A3.out).mono ?_); (case side1 => exact Go.Proofs.YtbjlcipamdgnjaaDoor.Room.PowTab_below HG.out bl); rintro e w6 ⟨rfl, hb⟩; have n0_ := Aside0.mk (below_step bl hb); clear HB; have HB := n0_; clear n0_; (try clear hb); (try clear hb2); (try clear hk); (try clear hi))); go_upto_region 3 with (first | (go_at_call 8; (try (rename_i hK_; simp only [List.append] at hK_)); (with_reducible refine (targumlaw8_known.calls k  true _ ?side1 A3.out).mono ?_); (case side1 => exact Go.Proofs.YtbjlcipamdgnjaaDoor.Room.PowTab_below HG.out bl); rintro e w6 ⟨rfl, hb⟩; have n0_ := Aside0.mk (below_step bl hb); clear HB; have HB := n0_; clear n0_; (try clear hb); (try clear hb2); (try clear hk); (try clear hi))))
  (try simp only [Act.put, List.setIfInBounds_toArray, List.set_cons_zero, List.set_cons_succ])
  go_cut [26] (fun v26 wc => ∃ (kq : Nat) (x26_4 : Bool), v26 = .bool x26_4 ∧ Aside0 (targumlaw8_Num12Tells.j0 kq a0 l1 x26_4 = some r) ∧ Aside0 (kq ≤ k) ∧ Aside0 (Below w.heap.size w wc))
  case first =>
   have H := HC5.out
   clear HC5
   by_cases c7 : (a0.size : Int) > 60
   ·rw [if_pos c7] at H
    have c7b0 : decide (60 < (a0.size : Int)) = true := decide_eq_true c7
    have c7b1 : decide (60 < a0.size) = true := decide_eq_true (by omega)
    clear c7
    (first | rw [c7b0] | (simp only [i64_w, i32_w]; rw [c7b0]) | skip)
    have H' := Aside0.mk H
    clear H
    go_wp2
    repeat (go_quiet (fail); try go_wp2)
    go_meet
    case rel => exact ⟨_, (true), (by first | rfl | (simp; done) | (simp [*]; done) | (simp [wrap64]; done)), H', ⟨by first | omega | exact Nat.le_refl _⟩, ⟨bl⟩⟩
   ·rw [if_neg c7] at H
    have c7b0 : decide (60 < (a0.size : Int)) = false := decide_eq_false c7
    have c7b1 : decide (60 < a0.size) = false := decide_eq_false (by omega)
    clear c7
    (first | rw [c7b0] | (simp only [i64_w, i32_w]; rw [c7b0]) | skip)
    have H' := Aside0.mk H
    clear H
    go_wp2
    repeat (go_quiet (fail); try go_wp2)
    go_meet
    case rel => exact ⟨_, (decide ((l1.length : Int) > 40)), (by first | rfl | (simp; done) | (simp [*]; done) | (simp [wrap64]; done)), H', ⟨by first | omega | exact Nat.le_refl _⟩, ⟨bl⟩⟩
  case rest =>
   clear HC5
   try clear c1; try clear p2; try clear c3; try clear c4; try clear c7; try clear c7b0; try clear c7b1
   obtain ⟨kq, x26_4, rfl, HA, HJ4, HB⟩ := hcut
   cases kq with
   | zero => exact absurd HA.out (by simp [targumlaw8_Num12Tells.j0])
   | succ kj4 =>
    have H := HA.out
    clear HA
    simp only [targumlaw8_Num12Tells.j0] at H
    by_cases c8 : x26_4 = true
    ·subst c8
     have H1 : (some true) = some r := by rw [if_pos rfl] at H; exact H
     clear H
     have H := H1
     clear H1
     obtain rfl := Option.some.inj H
     go_wp2
     repeat (go_quiet (fail); try go_wp2)
     go_ret
     exact ⟨by first | rfl | (simp [errW_none, errW_some] <;> rfl) | (simp [*, errW_none, errW_some] <;> rfl) | ((generalize ByteArray.toList _ = z_); cases z_ <;> first | rfl | (simp; done)), bl⟩
    ·replace c8 := Bool.eq_false_iff.mpr c8
     subst c8
     have H1 : (targumlaw8_Num12Tells.l0 kj4 a0 l1 (⟨#[]⟩ : ByteArray) 0) = some r := by rw [if_neg (show ¬ (false = true) by decide)] at H; exact H
     clear H
     have H := H1
     clear H1
     have H' := Aside0.mk H
     clear H
     go_wp2
     repeat (go_quiet (fail); try go_wp2)
     go_loopg [5, 6] kj4 (fun kq v5 v6 w' => ∃ (x5_2 : ByteArray) (x6_2 : Int), v5 = .string x5_2 ∧ v6 = .int .i64 x6_2 ∧ Aside0 (targumlaw8_Num12Tells.l0 kq a0 l1 x5_2 x6_2 = some r) ∧ Aside0 (kq ≤ kj4) ∧ Aside0 (Below w.heap.size w w'))
     case atStart => exact ⟨((⟨#[]⟩ : ByteArray)), (0), (by first | rfl | (simp; done) | (simp [*]; done) | (simp [wrap64]; done)), (by first | rfl | (simp; done) | (simp [*]; done) | (simp [wrap64]; done)), H', ⟨Nat.le_refl _⟩, ⟨bl⟩⟩
     case round =>
      clear H'
      try clear c1; try clear p2; try clear c3; try clear c4; try clear c7; try clear c7b0; try clear c7b1; try clear c8; try clear p2
      obtain ⟨x5_2, x6_2, rfl, rfl, HA, HK2, HB⟩ := hrel
      cases gk with
      | zero => exact absurd HA.out (by simp [targumlaw8_Num12Tells.l0])
      | succ k2 =>
       have H := HA.out
       clear HA
       simp only [targumlaw8_Num12Tells.l0] at H
       by_cases c9 : x6_2 < (l1.length : Int)
       ·rw [if_pos c9] at H
        have c9b0 : decide (x6_2 < (l1.length : Int)) = true := decide_eq_true c9
        clear c9
        by_cases c10 : 0 ≤ x6_2
        ·rw [if_pos c10] at H
         have c10b0 : decide (0 ≤ x6_2) = true := decide_eq_true c10
         clear c10
         obtain ⟨ji11, hji11⟩ : ∃ j_ : Int, (Int.tmod (wrap64 (rd l1 x6_2)) 26) = j_ := ⟨_, rfl⟩
         replace H : (if 0 ≤ (ji11) then (if (ji11) ≤ (wrap64 ((ji11) + 1)) then (if (wrap64 ((ji11) + 1)) ≤ 26 then (if x5_2.size + ((⟨#[48, 49, 50, 51, 52, 53, 54, 55, 56, 57, 46, 101, 43, 45, 69, 111, 120, 95, 97, 98, 99, 100, 101, 102, 70, 58]⟩ : ByteArray).extract ((ji11) : Int).toNat ((wrap64 ((ji11) + 1)) : Int).toNat).size ≤ 9223372036854775807 then (targumlaw8_Num12Tells.l0 k2 a0 l1 (x5_2 ++ ((⟨#[48, 49, 50, 51, 52, 53, 54, 55, 56, 57, 46, 101, 43, 45, 69, 111, 120, 95, 97, 98, 99, 100, 101, 102, 70, 58]⟩ : ByteArray).extract ((ji11) : Int).toNat ((wrap64 ((ji11) + 1)) : Int).toNat)) (wrap64 (x6_2 + 1))) else (none)) else (none)) else (none)) else (none)) = some r := by first | (rw [hji11] at H; exact H) | (simp only [hji11] at H ⊢; exact H)
         by_cases c12 : 0 ≤ (ji11)
         ·rw [if_pos c12] at H
          have c12b0 := eq_true c12
          have c12b1 : decide (0 ≤ (ji11)) = true := decide_eq_true c12
          clear c12
          by_cases c13 : (ji11) ≤ (wrap64 ((ji11) + 1))
          ·rw [if_pos c13] at H
           have c13b0 := eq_true c13
           have c13b1 : decide ((ji11) ≤ (wrap64 ((ji11) + 1))) = true := decide_eq_true c13
           by_cases c14 : (wrap64 ((ji11) + 1)) ≤ 26
           ·rw [if_pos c14] at H
            have c14b0 := eq_true c14
            have c14b1 : decide ((wrap64 ((ji11) + 1)) ≤ 26) = true := decide_eq_true c14
            by_cases c15 : x5_2.size + ((⟨#[48, 49, 50, 51, 52, 53, 54, 55, 56, 57, 46, 101, 43, 45, 69, 111, 120, 95, 97, 98, 99, 100, 101, 102, 70, 58]⟩ : ByteArray).extract ((ji11) : Int).toNat ((wrap64 ((ji11) + 1)) : Int).toNat).size ≤ 9223372036854775807
            ·rw [if_pos c15] at H
             have c15b0 := eq_true c15
             have c15b1 : decide (x5_2.size + ((⟨#[48, 49, 50, 51, 52, 53, 54, 55, 56, 57, 46, 101, 43, 45, 69, 111, 120, 95, 97, 98, 99, 100, 101, 102, 70, 58]⟩ : ByteArray).extract ((ji11) : Int).toNat ((wrap64 ((ji11) + 1)) : Int).toNat).size ≤ 9223372036854775807) = true := decide_eq_true c15
             try have c15b2 : (9223372036854775807 < x5_2.size + ((⟨#[48, 49, 50, 51, 52, 53, 54, 55, 56, 57, 46, 101, 43, 45, 69, 111, 120, 95, 97, 98, 99, 100, 101, 102, 70, 58]⟩ : ByteArray).extract ((ji11) : Int).toNat ((wrap64 ((ji11) + 1)) : Int).toNat).size) = False := eq_false (Nat.not_lt.2 c15)
             have H' := Aside0.mk H
             clear H
             have p298 : 0 ≤ (x6_2 : Int) := of_decide_eq_true (by first | (with_reducible assumption) | assumption)
             have q298 : x6_2 < (l1.length : Int) := of_decide_eq_true (by first | (with_reducible assumption) | assumption)
             obtain ⟨ad298, e298, hx298_0⟩ := Kd.at_int HR1.out x6_2 p298 q298
             cases e298
             replace hx298_0 := (HB.out.cell (World.block_lt_of_cell? w _ hx298_0)).trans hx298_0
             replace p298 := eq_true p298
             replace q298 := eq_true q298
             have p299 : 0 ≤ (x6_2 : Int) := of_decide_eq_true (by first | (with_reducible assumption) | assumption)
             have q299 : x6_2 < (l1.length : Int) := of_decide_eq_true (by first | (with_reducible assumption) | assumption)
             obtain ⟨ad299, e299, hx299_0⟩ := Kd.at_int HR1.out x6_2 p299 q299
             obtain rfl : ad298 = ad299 := (by injection e299)
             replace hx299_0 := (HB.out.cell (World.block_lt_of_cell? w _ hx299_0)).trans hx299_0
             replace p299 := eq_true p299
             replace q299 := eq_true q299
             go_wp2
             repeat (go_quiet (fail); try go_wp2)
             go_roundg k2
             case measure => have := HJ4.out; have := HK2.out; omega
             case rel => exact ⟨(x5_2 ++ ((⟨#[48, 49, 50, 51, 52, 53, 54, 55, 56, 57, 46, 101, 43, 45, 69, 111, 120, 95, 97, 98, 99, 100, 101, 102, 70, 58]⟩ : ByteArray).extract ((ji11) : Int).toNat ((wrap64 ((ji11) + 1)) : Int).toNat)), (wrap64 (x6_2 + 1)), (by first | rfl | (simp; done) | (simp only [← hji11] <;> (first | rfl | simp)) | (simp [*]; done)), (by first | rfl | (simp; done) | (simp [*]; done) | (simp [wrap64]; done)), H', ⟨by have := HJ4.out; have := HK2.out; omega⟩, ⟨bl⟩⟩
            ·rw [if_neg c15] at H
             exact absurd H (by simp)
           ·rw [if_neg c14] at H
            exact absurd H (by simp)
          ·rw [if_neg c13] at H
           exact absurd H (by simp)
         ·rw [if_neg c12] at H
          exact absurd H (by simp)
        ·rw [if_neg c10] at H
         exact absurd H (by simp)
       ·rw [if_neg c9] at H
        have c9b0 : decide (x6_2 < (l1.length : Int)) = false := decide_eq_false c9
        clear c9
        by_cases c16 : 2 + x5_2.size ≤ 9223372036854775807
        ·rw [if_pos c16] at H
         have c16b0 := eq_true c16
         have c16b1 : decide (2 + x5_2.size ≤ 9223372036854775807) = true := decide_eq_true c16
         try have c16b2 : (9223372036854775807 < 2 + x5_2.size) = False := eq_false (Nat.not_lt.2 c16)
         by_cases c17 : 1 + x5_2.size ≤ 9223372036854775807
         ·rw [if_pos c17] at H
          have c17b0 := eq_true c17
          have c17b1 : decide (1 + x5_2.size ≤ 9223372036854775807) = true := decide_eq_true c17
          try have c17b2 : (9223372036854775807 < 1 + x5_2.size) = False := eq_false (Nat.not_lt.2 c17)
          obtain ⟨y300, hy300⟩ : ∃ y_ : List ByteArray, y_ = (([a0, x5_2, (⟨#[48, 111]⟩ : ByteArray) ++ x5_2, (⟨#[48, 120]⟩ : ByteArray) ++ x5_2, (⟨#[49, 101]⟩ : ByteArray) ++ x5_2, (⟨#[45, 46]⟩ : ByteArray) ++ x5_2, (⟨#[49, 46]⟩ : ByteArray) ++ x5_2, (⟨#[43]⟩ : ByteArray) ++ x5_2] : List ByteArray)) := ⟨_, rfl⟩
          replace H : (targumlaw8_Num12Tells.l1 k2 y300 (y300.length : Int) 0) = some r := by first | (rw [hy300]; with_reducible exact H) | (have H2_ := (Option.bind_some _ _).symm.trans H; rw [hy300]; with_reducible exact H2_) | (have H2_ := (Option.bind_some _ _).symm.trans H; with_reducible exact H2_) | with_reducible exact H | (rw [hy300]; exact H) | exact H
          have Ny300 := Aside0.mk hy300
          clear hy300
          have H' := Aside0.mk H
          clear H
          go_wp2_with (first | ((with_reducible refine gate_dst (N := 63) rfl ?_); (try (refine gate_guard (by rfl) ?_; dsimp only)); refine Kd.R_lit Kd.string _ 9 ?hg (N := 63) ?hd (xs := ([a0, x5_2, (⟨#[48, 111]⟩ : ByteArray) ++ x5_2, (⟨#[48, 120]⟩ : ByteArray) ++ x5_2, (⟨#[49, 101]⟩ : ByteArray) ++ x5_2, (⟨#[45, 46]⟩ : ByteArray) ++ x5_2, (⟨#[49, 46]⟩ : ByteArray) ++ x5_2, (⟨#[43]⟩ : ByteArray) ++ x5_2] : List ByteArray)) (inner := [.string a0, .string x5_2, .string ((⟨#[48, 111]⟩ : ByteArray) ++ x5_2), .string ((⟨#[48, 120]⟩ : ByteArray) ++ x5_2), .string ((⟨#[49, 101]⟩ : ByteArray) ++ x5_2), .string ((⟨#[45, 46]⟩ : ByteArray) ++ x5_2), .string ((⟨#[49, 46]⟩ : ByteArray) ++ x5_2), .string ((⟨#[43]⟩ : ByteArray) ++ x5_2)]) (ok := fun _ => True) (okp := fun _ => True) ?hr ?hp (fun _ hk => hk) trivial (Below.refl _ _) (Nat.le_refl _) (by simp) ?_; (case hd => rfl); (case hg => rfl); (case hr => first | (go_simp; done) | (go_simp; rfl)); (case hp => exact (Reps.one (show Kd.M Kd.string _ _ _ a0 [.string a0] from rfl) (Reps.one (show Kd.M Kd.string _ _ _ x5_2 [.string x5_2] from rfl) (Reps.one (show Kd.M Kd.string _ _ _ ((⟨#[48, 111]⟩ : ByteArray) ++ x5_2) [.string ((⟨#[48, 111]⟩ : ByteArray) ++ x5_2)] from rfl) (Reps.one (show Kd.M Kd.string _ _ _ ((⟨#[48, 120]⟩ : ByteArray) ++ x5_2) [.string ((⟨#[48, 120]⟩ : ByteArray) ++ x5_2)] from rfl) (Reps.one (show Kd.M Kd.string _ _ _ ((⟨#[49, 101]⟩ : ByteArray) ++ x5_2) [.string ((⟨#[49, 101]⟩ : ByteArray) ++ x5_2)] from rfl) (Reps.one (show Kd.M Kd.string _ _ _ ((⟨#[45, 46]⟩ : ByteArray) ++ x5_2) [.string ((⟨#[45, 46]⟩ : ByteArray) ++ x5_2)] from rfl) (Reps.one (show Kd.M Kd.string _ _ _ ((⟨#[49, 46]⟩ : ByteArray) ++ x5_2) [.string ((⟨#[49, 46]⟩ : ByteArray) ++ x5_2)] from rfl) (Reps.one (show Kd.M Kd.string _ _ _ ((⟨#[43]⟩ : ByteArray) ++ x5_2) [.string ((⟨#[43]⟩ : ByteArray) ++ x5_2)] from rfl) (Reps.none _ _)))))))))); intro v301 w18 ho19 hb hg_ hnew_; clear hg_ hnew_; (first | rw [← Ny300.out] at ho19 | (simp only [Int.reduceToNat] at ho19; rw [← Ny300.out] at ho19)); have n0_ := Aside0.mk (Kd.R_lower ho19 (below_size bl)); have n1_ := Aside0.mk (below_step bl hb); clear HB; have HO302 := n0_; have HB := n1_; clear n0_ n1_; clear hb ho19; obtain ⟨Ao20, co20, eo20⟩ := Kd.R_slice HO302.out; subst eo20))
          repeat (go_quiet (first | ((with_reducible refine gate_dst (N := 63) rfl ?_); (try (refine gate_guard (by rfl) ?_; dsimp only)); refine Kd.R_lit Kd.string _ 9 ?hg (N := 63) ?hd (xs := ([a0, x5_2, (⟨#[48, 111]⟩ : ByteArray) ++ x5_2, (⟨#[48, 120]⟩ : ByteArray) ++ x5_2, (⟨#[49, 101]⟩ : ByteArray) ++ x5_2, (⟨#[45, 46]⟩ : ByteArray) ++ x5_2, (⟨#[49, 46]⟩ : ByteArray) ++ x5_2, (⟨#[43]⟩ : ByteArray) ++ x5_2] : List ByteArray)) (inner := [.string a0, .string x5_2, .string ((⟨#[48, 111]⟩ : ByteArray) ++ x5_2), .string ((⟨#[48, 120]⟩ : ByteArray) ++ x5_2), .string ((⟨#[49, 101]⟩ : ByteArray) ++ x5_2), .string ((⟨#[45, 46]⟩ : ByteArray) ++ x5_2), .string ((⟨#[49, 46]⟩ : ByteArray) ++ x5_2), .string ((⟨#[43]⟩ : ByteArray) ++ x5_2)]) (ok := fun _ => True) (okp := fun _ => True) ?hr ?hp (fun _ hk => hk) trivial (Below.refl _ _) (Nat.le_refl _) (by simp) ?_; (case hd => rfl); (case hg => rfl); (case hr => first | (go_simp; done) | (go_simp; rfl)); (case hp => exact (Reps.one (show Kd.M Kd.string _ _ _ a0 [.string a0] from rfl) (Reps.one (show Kd.M Kd.string _ _ _ x5_2 [.string x5_2] from rfl) (Reps.one (show Kd.M Kd.string _ _ _ ((⟨#[48, 111]⟩ : ByteArray) ++ x5_2) [.string ((⟨#[48, 111]⟩ : ByteArray) ++ x5_2)] from rfl) (Reps.one (show Kd.M Kd.string _ _ _ ((⟨#[48, 120]⟩ : ByteArray) ++ x5_2) [.string ((⟨#[48, 120]⟩ : ByteArray) ++ x5_2)] from rfl) (Reps.one (show Kd.M Kd.string _ _ _ ((⟨#[49, 101]⟩ : ByteArray) ++ x5_2) [.string ((⟨#[49, 101]⟩ : ByteArray) ++ x5_2)] from rfl) (Reps.one (show Kd.M Kd.string _ _ _ ((⟨#[45, 46]⟩ : ByteArray) ++ x5_2) [.string ((⟨#[45, 46]⟩ : ByteArray) ++ x5_2)] from rfl) (Reps.one (show Kd.M Kd.string _ _ _ ((⟨#[49, 46]⟩ : ByteArray) ++ x5_2) [.string ((⟨#[49, 46]⟩ : ByteArray) ++ x5_2)] from rfl) (Reps.one (show Kd.M Kd.string _ _ _ ((⟨#[43]⟩ : ByteArray) ++ x5_2) [.string ((⟨#[43]⟩ : ByteArray) ++ x5_2)] from rfl) (Reps.none _ _)))))))))); intro v301 w18 ho19 hb hg_ hnew_; clear hg_ hnew_; (first | rw [← Ny300.out] at ho19 | (simp only [Int.reduceToNat] at ho19; rw [← Ny300.out] at ho19)); have n0_ := Aside0.mk (Kd.R_lower ho19 (below_size bl)); have n1_ := Aside0.mk (below_step bl hb); clear HB; have HO302 := n0_; have HB := n1_; clear n0_ n1_; clear hb ho19; obtain ⟨Ao20, co20, eo20⟩ := Kd.R_slice HO302.out; subst eo20)); try go_wp2_with (first | ((with_reducible refine gate_dst (N := 63) rfl ?_); (try (refine gate_guard (by rfl) ?_; dsimp only)); refine Kd.R_lit Kd.string _ 9 ?hg (N := 63) ?hd (xs := ([a0, x5_2, (⟨#[48, 111]⟩ : ByteArray) ++ x5_2, (⟨#[48, 120]⟩ : ByteArray) ++ x5_2, (⟨#[49, 101]⟩ : ByteArray) ++ x5_2, (⟨#[45, 46]⟩ : ByteArray) ++ x5_2, (⟨#[49, 46]⟩ : ByteArray) ++ x5_2, (⟨#[43]⟩ : ByteArray) ++ x5_2] : List ByteArray)) (inner := [.string a0, .string x5_2, .string ((⟨#[48, 111]⟩ : ByteArray) ++ x5_2), .string ((⟨#[48, 120]⟩ : ByteArray) ++ x5_2), .string ((⟨#[49, 101]⟩ : ByteArray) ++ x5_2), .string ((⟨#[45, 46]⟩ : ByteArray) ++ x5_2), .string ((⟨#[49, 46]⟩ : ByteArray) ++ x5_2), .string ((⟨#[43]⟩ : ByteArray) ++ x5_2)]) (ok := fun _ => True) (okp := fun _ => True) ?hr ?hp (fun _ hk => hk) trivial (Below.refl _ _) (Nat.le_refl _) (by simp) ?_; (case hd => rfl); (case hg => rfl); (case hr => first | (go_simp; done) | (go_simp; rfl)); (case hp => exact (Reps.one (show Kd.M Kd.string _ _ _ a0 [.string a0] from rfl) (Reps.one (show Kd.M Kd.string _ _ _ x5_2 [.string x5_2] from rfl) (Reps.one (show Kd.M Kd.string _ _ _ ((⟨#[48, 111]⟩ : ByteArray) ++ x5_2) [.string ((⟨#[48, 111]⟩ : ByteArray) ++ x5_2)] from rfl) (Reps.one (show Kd.M Kd.string _ _ _ ((⟨#[48, 120]⟩ : ByteArray) ++ x5_2) [.string ((⟨#[48, 120]⟩ : ByteArray) ++ x5_2)] from rfl) (Reps.one (show Kd.M Kd.string _ _ _ ((⟨#[49, 101]⟩ : ByteArray) ++ x5_2) [.string ((⟨#[49, 101]⟩ : ByteArray) ++ x5_2)] from rfl) (Reps.one (show Kd.M Kd.string _ _ _ ((⟨#[45, 46]⟩ : ByteArray) ++ x5_2) [.string ((⟨#[45, 46]⟩ : ByteArray) ++ x5_2)] from rfl) (Reps.one (show Kd.M Kd.string _ _ _ ((⟨#[49, 46]⟩ : ByteArray) ++ x5_2) [.string ((⟨#[49, 46]⟩ : ByteArray) ++ x5_2)] from rfl) (Reps.one (show Kd.M Kd.string _ _ _ ((⟨#[43]⟩ : ByteArray) ++ x5_2) [.string ((⟨#[43]⟩ : ByteArray) ++ x5_2)] from rfl) (Reps.none _ _)))))))))); intro v301 w18 ho19 hb hg_ hnew_; clear hg_ hnew_; (first | rw [← Ny300.out] at ho19 | (simp only [Int.reduceToNat] at ho19; rw [← Ny300.out] at ho19)); have n0_ := Aside0.mk (Kd.R_lower ho19 (below_size bl)); have n1_ := Aside0.mk (below_step bl hb); clear HB; have HO302 := n0_; have HB := n1_; clear n0_ n1_; clear hb ho19; obtain ⟨Ao20, co20, eo20⟩ := Kd.R_slice HO302.out; subst eo20)))
          go_loopg [65] k2 (fun kq v65 w' => ∃ (x65_3 : Int), v65 = .int .i64 x65_3 ∧ Aside0 (targumlaw8_Num12Tells.l1 kq y300 (y300.length : Int) x65_3 = some r) ∧ Aside0 (kq ≤ k2) ∧ Aside0 (Kd.R Kd.string 9 w' w.heap.size (fun _ => True) (.slice Ao20 y300.length co20) y300) ∧ Aside0 (Below w.heap.size w w'))
          case atStart => exact ⟨(0), (by first | rfl | (simp; done) | (simp [*]; done) | (simp [wrap64]; done)), H', ⟨Nat.le_refl _⟩, ⟨by (with_reducible repeat (first | apply Kd.R_alloc | apply Kd.R_drewN | apply Kd.R_drew)); exact HO302.out⟩, ⟨bl⟩⟩
          case round =>
           clear H'
           try clear c1; try clear p2; try clear q2; try clear hx2; try clear c3; try clear c4; try clear p6; try clear c7; try clear c7b0; try clear c7b1; try clear c8; try clear c9; try clear c9b0; try clear c10; try clear c10b0; try clear c12; try clear c12b0; try clear c12b1; try clear c13; try clear c13b0; try clear c13b1; try clear c14; try clear c14b0; try clear c14b1; try clear c15; try clear c15b0; try clear c15b1; try clear c15b2; try clear c16; try clear c16b0; try clear c16b1; try clear c16b2; try clear c17; try clear c17b0; try clear c17b1; try clear c17b2; try clear hx298_0; try clear hx299_0; try clear p2; try clear p298; try clear p299; try clear q298; try clear q299
           obtain ⟨x65_3, rfl, HA, HK3, HO_63, HB⟩ := hrel
           cases gk with
           | zero => exact absurd HA.out (by simp [targumlaw8_Num12Tells.l1])
           | succ k3 =>
            have H := HA.out
            clear HA
            simp only [targumlaw8_Num12Tells.l1] at H
            by_cases c21 : x65_3 < (y300.length : Int)
            ·rw [if_pos c21] at H
             have c21b0 : decide (x65_3 < (y300.length : Int)) = true := decide_eq_true c21
             clear c21
             by_cases c22 : 0 ≤ x65_3
             ·rw [if_pos c22] at H
              have c22b0 : decide (0 ≤ x65_3) = true := decide_eq_true c22
              clear c22
              by_cases c23 : x65_3 < (y300.length : Int)
              ·rw [if_pos c23] at H
               have c23b0 : decide (x65_3 < (y300.length : Int)) = true := decide_eq_true c23
               clear c23
               replace H := Option.bind_eq_some_iff.mp H
               obtain ⟨⟨t304, t305⟩, A240, H⟩ := H
               replace H : ((targumref6_Int12.f k3 (rdOf ByteArray.empty y300 x65_3)).bind fun bt306 => ((num12_Float.f k3 (rdOf ByteArray.empty y300 x65_3)).bind fun bt308 => ((targumref6_Float12.f k3 (rdOf ByteArray.empty y300 x65_3)).bind fun bt314 => (if t304.toList = bt306.1.toList then (if (t305 != bt306.2) = true then (some false) else (if (!(bt308.1 == bt314.1) || (!(bt308.2.1 == bt314.2.1) || (!(bt308.2.2.1.toList == bt314.2.2.1.toList) || (!(bt308.2.2.2.1.toList == bt314.2.2.2.1.toList))))) = true then (some false) else (if (bt308.2.2.2.2 != bt314.2.2.2.2) = true then (some false) else (targumlaw8_Num12Tells.l1 k3 y300 (y300.length : Int) (wrap64 (x65_3 + 1)))))) else (some false))))) = some r := H
               have A24 := Aside0.mk A240
               clear A240
               replace H := Option.bind_eq_some_iff.mp H
               obtain ⟨⟨t306, t307⟩, A250, H⟩ := H
               replace H : ((num12_Float.f k3 (rdOf ByteArray.empty y300 x65_3)).bind fun bt308 => ((targumref6_Float12.f k3 (rdOf ByteArray.empty y300 x65_3)).bind fun bt314 => (if t304.toList = t306.toList then (if (t305 != t307) = true then (some false) else (if (!(bt308.1 == bt314.1) || (!(bt308.2.1 == bt314.2.1) || (!(bt308.2.2.1.toList == bt314.2.2.1.toList) || (!(bt308.2.2.2.1.toList == bt314.2.2.2.1.toList))))) = true then (some false) else (if (bt308.2.2.2.2 != bt314.2.2.2.2) = true then (some false) else (targumlaw8_Num12Tells.l1 k3 y300 (y300.length : Int) (wrap64 (x65_3 + 1)))))) else (some false)))) = some r := H
               have A25 := Aside0.mk A250
               clear A250
               replace H := Option.bind_eq_some_iff.mp H
               obtain ⟨⟨t308, t309, t310, t311, t312⟩, A260, H⟩ := H
               replace H : ((targumref6_Float12.f k3 (rdOf ByteArray.empty y300 x65_3)).bind fun bt314 => (if t304.toList = t306.toList then (if (t305 != t307) = true then (some false) else (if (!(t308 == bt314.1) || (!(t309 == bt314.2.1) || (!(t310.toList == bt314.2.2.1.toList) || (!(t311.toList == bt314.2.2.2.1.toList))))) = true then (some false) else (if (t312 != bt314.2.2.2.2) = true then (some false) else (targumlaw8_Num12Tells.l1 k3 y300 (y300.length : Int) (wrap64 (x65_3 + 1)))))) else (some false))) = some r := H
               have A26 := Aside0.mk A260
               clear A260
               replace H := Option.bind_eq_some_iff.mp H
               obtain ⟨⟨t314, t315, t316, t317, t318⟩, A270, H⟩ := H
               replace H : (if t304.toList = t306.toList then (if (t305 != t307) = true then (some false) else (if (!(t308 == t314) || (!(t309 == t315) || (!(t310.toList == t316.toList) || (!(t311.toList == t317.toList))))) = true then (some false) else (if (t312 != t318) = true then (some false) else (targumlaw8_Num12Tells.l1 k3 y300 (y300.length : Int) (wrap64 (x65_3 + 1)))))) else (some false)) = some r := H
               have A27 := Aside0.mk A270
               clear A270
               refine Classical.byCases (p := (t304.toList = t306.toList)) (fun c28 => ?x1) (fun c28 => ?y1)
               case' x1 =>
                rw [if_pos c28] at H
                have c28b0 : (t304.toList == t306.toList) = true := beq_iff_eq.mpr c28
                have c28b1 : (t304.toList != t306.toList) = false := bne_eq_false_iff_eq.mpr c28
                clear c28
                refine Classical.byCases (p := ((t305 != t307) = true)) (fun c29 => ?x2) (fun c29 => ?y2)
                case' x2 =>
                 rw [if_pos c29] at H
                 have c29b0 : (t305 != t307) = true := c29
                 (try (have c29b1 : decide (t305 = t307) = false := by simpa using c29))
                 (try (have c29b2 : (t305 == t307) = false := by simpa using c29))
                 (try (have c29b3 : ¬ (t305 = t307) := by simpa using c29))
                 clear c29
                 obtain rfl := Option.some.inj H
                 have p303 : 0 ≤ (x65_3 : Int) := of_decide_eq_true (by first | (with_reducible assumption) | assumption)
                 have q303 : x65_3 < (y300.length : Int) := of_decide_eq_true (by first | (with_reducible assumption) | assumption)
                 obtain ⟨ad303, e303, hx303_0⟩ := Kd.at_string (Kd.R_reads' HO_63.out).2.2 x65_3 p303 q303
                 cases e303
                 replace p303 := eq_true p303
                 replace q303 := eq_true q303
                 go_wp2_with (first | (go_at_call 9; (try (rename_i hK_; simp only [List.append] at hK_)); (with_reducible refine (num12_Int.calls k3 (rdOf ByteArray.empty y300 x65_3) t304 t305 _ ?side1 A24.out).mono ?_); (case side1 => exact Go.Proofs.YtbjlcipamdgnjaaDoor.Room.PowTab_below HG.out bl); rintro e w30 ⟨rfl, hb⟩; have n0_ := Aside0.mk (Kd.R_below (by (with_reducible repeat (first | apply Kd.R_alloc | apply Kd.R_drewN | apply Kd.R_drew)); exact HO_63.out) hb); have n1_ := Aside0.mk (below_step bl hb); clear HO_63; clear HB; have HO_63 := n0_; have HB := n1_; clear n0_ n1_; (try clear hb); (try clear hb2); (try clear hk); (try clear hi)) | (go_at_call 10; (try (rename_i hK_; simp only [List.append] at hK_)); (with_reducible refine (targumref6_Int12.calls k3 (rdOf ByteArray.empty y300 x65_3) t306 t307 _ A25.out).mono ?_); rintro e w31 ⟨rfl, hb⟩; have n0_ := Aside0.mk (Kd.R_below (by (with_reducible repeat (first | apply Kd.R_alloc | apply Kd.R_drewN | apply Kd.R_drew)); exact HO_63.out) hb); have n1_ := Aside0.mk (below_step bl hb); clear HO_63; clear HB; have HO_63 := n0_; have HB := n1_; clear n0_ n1_; (try clear hb); (try clear hb2); (try clear hk); (try clear hi)) | (go_at_call 11; (try (rename_i hK_; simp only [List.append] at hK_)); (with_reducible refine (num12_Float.calls k3 (rdOf ByteArray.empty y300 x65_3) t308 t309 t310 t311 t312 _ ?side1 A26.out).mono ?_); (case side1 => exact Go.Proofs.YtbjlcipamdgnjaaDoor.Room.PowTab_below HG.out bl); rintro e w32 ⟨rfl, hb⟩; have n0_ := Aside0.mk (Kd.R_below (by (with_reducible repeat (first | apply Kd.R_alloc | apply Kd.R_drewN | apply Kd.R_drew)); exact HO_63.out) hb); have n1_ := Aside0.mk (below_step bl hb); clear HO_63; clear HB; have HO_63 := n0_; have HB := n1_; clear n0_ n1_; (try clear hb); (try clear hb2); (try clear hk); (try clear hi)) | ((with_reducible refine gate_dst (N := 13) rfl ?_); (try (refine gate_guard (by rfl) ?_; dsimp only)); refine box_event ?hg (N := 13) ?hd (cs := #[.int .i64 0, .bool false, .string (⟨#[]⟩ : ByteArray), .string (⟨#[]⟩ : ByteArray)]) (t := 28) ?hr ?_; (case hd => rfl); (case hg => rfl); (case hr => first | (go_simp; done) | (go_simp; rfl)); intro gb313 hg w33 hbox hb; have n0_ := Aside0.mk (Kd.R_below (by (with_reducible repeat (first | apply Kd.R_alloc | apply Kd.R_drewN | apply Kd.R_drew)); exact HO_63.out) hb); have n1_ := Aside0.mk (below_step bl hb); have n2_ := Aside0.mk (hbox); have n3_ := Aside0.mk ((by rw [hg]; exact (below_size bl) : w.heap.size ≤ gb313)); have n4_ := Aside0.mk ((by rw [hg]; exact (below_size bl) : w.heap.size ≤ gb313)); clear HO_63; clear HB; have HO_63 := n0_; have HB := n1_; have BK313 := n2_; have GW313 := n3_; have GE313 := n4_; clear n0_ n1_ n2_ n3_ n4_; clear hb hbox hg; have hcz34_0 : w33.cell? ⟨gb313, 0, none⟩ = some (.int .i64 0) := (blk_cell BK313.out 0).trans rfl; have hcz34_1 : w33.cell? ⟨gb313, 1, none⟩ = some (.bool false) := (blk_cell BK313.out 1).trans rfl; have hcz34_2 : w33.cell? ⟨gb313, 2, none⟩ = some (.string (⟨#[]⟩ : ByteArray)) := (blk_cell BK313.out 2).trans rfl; have hcz34_3 : w33.cell? ⟨gb313, 3, none⟩ = some (.string (⟨#[]⟩ : ByteArray)) := (blk_cell BK313.out 3).trans rfl; have hfz34_0 := blk_frozen BK313.out 0; have hfz34_1 := blk_frozen BK313.out 1; have hfz34_2 := blk_frozen BK313.out 2; have hfz34_3 := blk_frozen BK313.out 3) | (go_at_call 12; (try (rename_i hK_; simp only [List.append] at hK_)); (with_reducible refine (targumref6_Float12.calls k3 (rdOf ByteArray.empty y300 x65_3) t314 t315 t316 t317 t318 _ A27.out).mono ?_); rintro e w35 ⟨rfl, hb⟩; have n0_ := Aside0.mk (Kd.R_below (by (with_reducible repeat (first | apply Kd.R_alloc | apply Kd.R_drewN | apply Kd.R_drew)); exact (Kd.R_mono (Kd.R_far (p := ⟨gb313, 3, none⟩) (Kd.R_far (p := ⟨gb313, 2, none⟩) (Kd.R_far (p := ⟨gb313, 1, none⟩) (Kd.R_far (p := ⟨gb313, 0, none⟩) (Kd.R_types HO_63.out BK313.out (by decide)) (fun _ hk => hk.2) (.int .i64 t308)) (fun _ hk => hk.2) (.bool t309)) (fun _ hk => hk.2) (.string t310)) (fun _ hk => hk.2) (.string t311)) (fun _ h_ => h_.1))) hb); have n1_ := Aside0.mk (blk_below (g := gb313) (o := .cells #[.int .i64 t308, .bool t309, .string t310, .string t311] 28 (0, 0)) bk hb); have n2_ := Aside0.mk (below_step bl hb); clear HO_63; clear BK313; clear HB; have HO_63 := n0_; have BK313 := n1_; have HB := n2_; clear n0_ n1_ n2_; (try clear hb); (try clear hb2); (try clear hk); (try clear hi)) | ((with_reducible refine gate_dst (N := 15) rfl ?_); (try (refine gate_guard (by rfl) ?_; dsimp only)); refine box_event ?hg (N := 15) ?hd (cs := #[.int .i64 0, .bool false, .string (⟨#[]⟩ : ByteArray), .string (⟨#[]⟩ : ByteArray)]) (t := 28) ?hr ?_; (case hd => rfl); (case hg => rfl); (case hr => first | (go_simp; done) | (go_simp; rfl)); intro gb319 hg w36 hbox hb; have n0_ := Aside0.mk (Kd.R_below (by (with_reducible repeat (first | apply Kd.R_alloc | apply Kd.R_drewN | apply Kd.R_drew)); exact HO_63.out) hb); have n1_ := Aside0.mk (blk_below (g := gb313) (o := .cells #[.int .i64 t308, .bool t309, .string t310, .string t311] 28 (0, 0)) bk hb); have n2_ := Aside0.mk (below_step bl hb); have n3_ := Aside0.mk (hbox); have n4_ := Aside0.mk ((by rw [hg]; exact (below_size bl) : w.heap.size ≤ gb319)); have n5_ := Aside0.mk ((by rw [hg]; exact (below_size bl) : w.heap.size ≤ gb319)); have n6_ := Aside0.mk ((by rw [hg]; exact Nat.ne_of_lt (blk_lt (g := gb313) (o := .cells #[.int .i64 t308, .bool t309, .string t310, .string t311] 28 (0, 0)) bk) : gb313 ≠ gb319)); have n7_ := Aside0.mk ((by rw [hg]; exact Nat.ne_of_gt (blk_lt (g := gb313) (o := .cells #[.int .i64 t308, .bool t309, .string t310, .string t311] 28 (0, 0)) bk) : gb319 ≠ gb313)); clear HO_63; clear BK313; clear HB; have HO_63 := n0_; have BK313 := n1_; have HB := n2_; have BK319 := n3_; have GW319 := n4_; have GE319 := n5_; have NB313_319 := n6_; have NB319_313 := n7_; clear n0_ n1_ n2_ n3_ n4_ n5_ n6_ n7_; clear hb hbox hg; have hnb37 := NB319_313.out; have hnc37 := NB313_319.out; have hcz38_0 : w36.cell? ⟨gb319, 0, none⟩ = some (.int .i64 0) := (blk_cell BK319.out 0).trans rfl; have hcz38_1 : w36.cell? ⟨gb319, 1, none⟩ = some (.bool false) := (blk_cell BK319.out 1).trans rfl; have hcz38_2 : w36.cell? ⟨gb319, 2, none⟩ = some (.string (⟨#[]⟩ : ByteArray)) := (blk_cell BK319.out 2).trans rfl; have hcz38_3 : w36.cell? ⟨gb319, 3, none⟩ = some (.string (⟨#[]⟩ : ByteArray)) := (blk_cell BK319.out 3).trans rfl; have hfz38_0 := blk_frozen BK319.out 0; have hfz38_1 := blk_frozen BK319.out 1; have hfz38_2 := blk_frozen BK319.out 2; have hfz38_3 := blk_frozen BK319.out 3))
                 skip
                case' y2 =>
                 rw [if_neg c29] at H
                 have c29b0 : (t305 != t307) = false := by simpa using c29
                 (try (have c29b1 : decide (t305 = t307) = true := by simpa using c29))
                 (try (have c29b2 : (t305 == t307) = true := by simpa using c29))
                 clear c29
                 refine Classical.byCases (p := ((!(t308 == t314) || (!(t309 == t315) || (!(t310.toList == t316.toList) || (!(t311.toList == t317.toList))))) = true)) (fun c39 => ?x3) (fun c39 => ?y3)
                 case' x3 =>
                  rw [if_pos c39] at H
                  have c39b0 : (!(t308 == t314) || (!(t309 == t315) || (!(t310.toList == t316.toList) || (!(t311.toList == t317.toList))))) = true := c39
                  clear c39
                  obtain rfl := Option.some.inj H
                  have p303 : 0 ≤ (x65_3 : Int) := of_decide_eq_true (by first | (with_reducible assumption) | assumption)
                  have q303 : x65_3 < (y300.length : Int) := of_decide_eq_true (by first | (with_reducible assumption) | assumption)
                  obtain ⟨ad303, e303, hx303_0⟩ := Kd.at_string (Kd.R_reads' HO_63.out).2.2 x65_3 p303 q303
                  cases e303
                  replace p303 := eq_true p303
                  replace q303 := eq_true q303
                  go_wp2_with (first | (go_at_call 9; (try (rename_i hK_; simp only [List.append] at hK_)); (with_reducible refine (num12_Int.calls k3 (rdOf ByteArray.empty y300 x65_3) t304 t305 _ ?side1 A24.out).mono ?_); (case side1 => exact Go.Proofs.YtbjlcipamdgnjaaDoor.Room.PowTab_below HG.out bl); rintro e w40 ⟨rfl, hb⟩; have n0_ := Aside0.mk (Kd.R_below (by (with_reducible repeat (first | apply Kd.R_alloc | apply Kd.R_drewN | apply Kd.R_drew)); exact HO_63.out) hb); have n1_ := Aside0.mk (below_step bl hb); clear HO_63; clear HB; have HO_63 := n0_; have HB := n1_; clear n0_ n1_; (try clear hb); (try clear hb2); (try clear hk); (try clear hi)) | (go_at_call 10; (try (rename_i hK_; simp only [List.append] at hK_)); (with_reducible refine (targumref6_Int12.calls k3 (rdOf ByteArray.empty y300 x65_3) t306 t307 _ A25.out).mono ?_); rintro e w41 ⟨rfl, hb⟩; have n0_ := Aside0.mk (Kd.R_below (by (with_reducible repeat (first | apply Kd.R_alloc | apply Kd.R_drewN | apply Kd.R_drew)); exact HO_63.out) hb); have n1_ := Aside0.mk (below_step bl hb); clear HO_63; clear HB; have HO_63 := n0_; have HB := n1_; clear n0_ n1_; (try clear hb); (try clear hb2); (try clear hk); (try clear hi)) | (go_at_call 11; (try (rename_i hK_; simp only [List.append] at hK_)); (with_reducible refine (num12_Float.calls k3 (rdOf ByteArray.empty y300 x65_3) t308 t309 t310 t311 t312 _ ?side1 A26.out).mono ?_); (case side1 => exact Go.Proofs.YtbjlcipamdgnjaaDoor.Room.PowTab_below HG.out bl); rintro e w42 ⟨rfl, hb⟩; have n0_ := Aside0.mk (Kd.R_below (by (with_reducible repeat (first | apply Kd.R_alloc | apply Kd.R_drewN | apply Kd.R_drew)); exact HO_63.out) hb); have n1_ := Aside0.mk (below_step bl hb); clear HO_63; clear HB; have HO_63 := n0_; have HB := n1_; clear n0_ n1_; (try clear hb); (try clear hb2); (try clear hk); (try clear hi)) | ((with_reducible refine gate_dst (N := 13) rfl ?_); (try (refine gate_guard (by rfl) ?_; dsimp only)); refine box_event ?hg (N := 13) ?hd (cs := #[.int .i64 0, .bool false, .string (⟨#[]⟩ : ByteArray), .string (⟨#[]⟩ : ByteArray)]) (t := 28) ?hr ?_; (case hd => rfl); (case hg => rfl); (case hr => first | (go_simp; done) | (go_simp; rfl)); intro gb313 hg w43 hbox hb; have n0_ := Aside0.mk (Kd.R_below (by (with_reducible repeat (first | apply Kd.R_alloc | apply Kd.R_drewN | apply Kd.R_drew)); exact HO_63.out) hb); have n1_ := Aside0.mk (below_step bl hb); have n2_ := Aside0.mk (hbox); have n3_ := Aside0.mk ((by rw [hg]; exact (below_size bl) : w.heap.size ≤ gb313)); have n4_ := Aside0.mk ((by rw [hg]; exact (below_size bl) : w.heap.size ≤ gb313)); clear HO_63; clear HB; have HO_63 := n0_; have HB := n1_; have BK313 := n2_; have GW313 := n3_; have GE313 := n4_; clear n0_ n1_ n2_ n3_ n4_; clear hb hbox hg; have hcz44_0 : w43.cell? ⟨gb313, 0, none⟩ = some (.int .i64 0) := (blk_cell BK313.out 0).trans rfl; have hcz44_1 : w43.cell? ⟨gb313, 1, none⟩ = some (.bool false) := (blk_cell BK313.out 1).trans rfl; have hcz44_2 : w43.cell? ⟨gb313, 2, none⟩ = some (.string (⟨#[]⟩ : ByteArray)) := (blk_cell BK313.out 2).trans rfl; have hcz44_3 : w43.cell? ⟨gb313, 3, none⟩ = some (.string (⟨#[]⟩ : ByteArray)) := (blk_cell BK313.out 3).trans rfl; have hfz44_0 := blk_frozen BK313.out 0; have hfz44_1 := blk_frozen BK313.out 1; have hfz44_2 := blk_frozen BK313.out 2; have hfz44_3 := blk_frozen BK313.out 3) | (go_at_call 12; (try (rename_i hK_; simp only [List.append] at hK_)); (with_reducible refine (targumref6_Float12.calls k3 (rdOf ByteArray.empty y300 x65_3) t314 t315 t316 t317 t318 _ A27.out).mono ?_); rintro e w45 ⟨rfl, hb⟩; have n0_ := Aside0.mk (Kd.R_below (by (with_reducible repeat (first | apply Kd.R_alloc | apply Kd.R_drewN | apply Kd.R_drew)); exact (Kd.R_mono (Kd.R_far (p := ⟨gb313, 3, none⟩) (Kd.R_far (p := ⟨gb313, 2, none⟩) (Kd.R_far (p := ⟨gb313, 1, none⟩) (Kd.R_far (p := ⟨gb313, 0, none⟩) (Kd.R_types HO_63.out BK313.out (by decide)) (fun _ hk => hk.2) (.int .i64 t308)) (fun _ hk => hk.2) (.bool t309)) (fun _ hk => hk.2) (.string t310)) (fun _ hk => hk.2) (.string t311)) (fun _ h_ => h_.1))) hb); have n1_ := Aside0.mk (blk_below (g := gb313) (o := .cells #[.int .i64 t308, .bool t309, .string t310, .string t311] 28 (0, 0)) bk hb); have n2_ := Aside0.mk (below_step bl hb); clear HO_63; clear BK313; clear HB; have HO_63 := n0_; have BK313 := n1_; have HB := n2_; clear n0_ n1_ n2_; (try clear hb); (try clear hb2); (try clear hk); (try clear hi)) | ((with_reducible refine gate_dst (N := 15) rfl ?_); (try (refine gate_guard (by rfl) ?_; dsimp only)); refine box_event ?hg (N := 15) ?hd (cs := #[.int .i64 0, .bool false, .string (⟨#[]⟩ : ByteArray), .string (⟨#[]⟩ : ByteArray)]) (t := 28) ?hr ?_; (case hd => rfl); (case hg => rfl); (case hr => first | (go_simp; done) | (go_simp; rfl)); intro gb319 hg w46 hbox hb; have n0_ := Aside0.mk (Kd.R_below (by (with_reducible repeat (first | apply Kd.R_alloc | apply Kd.R_drewN | apply Kd.R_drew)); exact HO_63.out) hb); have n1_ := Aside0.mk (blk_below (g := gb313) (o := .cells #[.int .i64 t308, .bool t309, .string t310, .string t311] 28 (0, 0)) bk hb); have n2_ := Aside0.mk (below_step bl hb); have n3_ := Aside0.mk (hbox); have n4_ := Aside0.mk ((by rw [hg]; exact (below_size bl) : w.heap.size ≤ gb319)); have n5_ := Aside0.mk ((by rw [hg]; exact (below_size bl) : w.heap.size ≤ gb319)); have n6_ := Aside0.mk ((by rw [hg]; exact Nat.ne_of_lt (blk_lt (g := gb313) (o := .cells #[.int .i64 t308, .bool t309, .string t310, .string t311] 28 (0, 0)) bk) : gb313 ≠ gb319)); have n7_ := Aside0.mk ((by rw [hg]; exact Nat.ne_of_gt (blk_lt (g := gb313) (o := .cells #[.int .i64 t308, .bool t309, .string t310, .string t311] 28 (0, 0)) bk) : gb319 ≠ gb313)); clear HO_63; clear BK313; clear HB; have HO_63 := n0_; have BK313 := n1_; have HB := n2_; have BK319 := n3_; have GW319 := n4_; have GE319 := n5_; have NB313_319 := n6_; have NB319_313 := n7_; clear n0_ n1_ n2_ n3_ n4_ n5_ n6_ n7_; clear hb hbox hg; have hnb47 := NB319_313.out; have hnc47 := NB313_319.out; have hcz48_0 : w46.cell? ⟨gb319, 0, none⟩ = some (.int .i64 0) := (blk_cell BK319.out 0).trans rfl; have hcz48_1 : w46.cell? ⟨gb319, 1, none⟩ = some (.bool false) := (blk_cell BK319.out 1).trans rfl; have hcz48_2 : w46.cell? ⟨gb319, 2, none⟩ = some (.string (⟨#[]⟩ : ByteArray)) := (blk_cell BK319.out 2).trans rfl; have hcz48_3 : w46.cell? ⟨gb319, 3, none⟩ = some (.string (⟨#[]⟩ : ByteArray)) := (blk_cell BK319.out 3).trans rfl; have hfz48_0 := blk_frozen BK319.out 0; have hfz48_1 := blk_frozen BK319.out 1; have hfz48_2 := blk_frozen BK319.out 2; have hfz48_3 := blk_frozen BK319.out 3; have hcz49_0 : w46.cell? ⟨gb313, 0, none⟩ = some (.int .i64 t308) := (blk_cell BK313.out 0).trans rfl; have hcz49_1 : w46.cell? ⟨gb313, 1, none⟩ = some (.bool t309) := (blk_cell BK313.out 1).trans rfl; have hcz49_2 : w46.cell? ⟨gb313, 2, none⟩ = some (.string t310) := (blk_cell BK313.out 2).trans rfl; have hcz49_3 : w46.cell? ⟨gb313, 3, none⟩ = some (.string t311) := (blk_cell BK313.out 3).trans rfl; have hfz49_0 := blk_frozen BK313.out 0; have hfz49_1 := blk_frozen BK313.out 1; have hfz49_2 := blk_frozen BK313.out 2; have hfz49_3 := blk_frozen BK313.out 3))
                  skip
                 case' y3 =>
                  rw [if_neg c39] at H
                  have c39b0 : (!(t308 == t314) || (!(t309 == t315) || (!(t310.toList == t316.toList) || (!(t311.toList == t317.toList))))) = false := by simpa using c39
                  clear c39
                  refine Classical.byCases (p := ((t312 != t318) = true)) (fun c50 => ?x4) (fun c50 => ?y4)
                  case' x4 =>
                   rw [if_pos c50] at H
                   have c50b0 : (t312 != t318) = true := c50
                   (try (have c50b1 : decide (t312 = t318) = false := by simpa using c50))
                   (try (have c50b2 : (t312 == t318) = false := by simpa using c50))
                   (try (have c50b3 : ¬ (t312 = t318) := by simpa using c50))
                   clear c50
                   obtain rfl := Option.some.inj H
                   have p303 : 0 ≤ (x65_3 : Int) := of_decide_eq_true (by first | (with_reducible assumption) | assumption)
                   have q303 : x65_3 < (y300.length : Int) := of_decide_eq_true (by first | (with_reducible assumption) | assumption)
                   obtain ⟨ad303, e303, hx303_0⟩ := Kd.at_string (Kd.R_reads' HO_63.out).2.2 x65_3 p303 q303
                   cases e303
                   replace p303 := eq_true p303
                   replace q303 := eq_true q303
                   go_wp2_with (first | (go_at_call 9; (try (rename_i hK_; simp only [List.append] at hK_)); (with_reducible refine (num12_Int.calls k3 (rdOf ByteArray.empty y300 x65_3) t304 t305 _ ?side1 A24.out).mono ?_); (case side1 => exact Go.Proofs.YtbjlcipamdgnjaaDoor.Room.PowTab_below HG.out bl); rintro e w51 ⟨rfl, hb⟩; have n0_ := Aside0.mk (Kd.R_below (by (with_reducible repeat (first | apply Kd.R_alloc | apply Kd.R_drewN | apply Kd.R_drew)); exact HO_63.out) hb); have n1_ := Aside0.mk (below_step bl hb); clear HO_63; clear HB; have HO_63 := n0_; have HB := n1_; clear n0_ n1_; (try clear hb); (try clear hb2); (try clear hk); (try clear hi)) | (go_at_call 10; (try (rename_i hK_; simp only [List.append] at hK_)); (with_reducible refine (targumref6_Int12.calls k3 (rdOf ByteArray.empty y300 x65_3) t306 t307 _ A25.out).mono ?_); rintro e w52 ⟨rfl, hb⟩; have n0_ := Aside0.mk (Kd.R_below (by (with_reducible repeat (first | apply Kd.R_alloc | apply Kd.R_drewN | apply Kd.R_drew)); exact HO_63.out) hb); have n1_ := Aside0.mk (below_step bl hb); clear HO_63; clear HB; have HO_63 := n0_; have HB := n1_; clear n0_ n1_; (try clear hb); (try clear hb2); (try clear hk); (try clear hi)) | (go_at_call 11; (try (rename_i hK_; simp only [List.append] at hK_)); (with_reducible refine (num12_Float.calls k3 (rdOf ByteArray.empty y300 x65_3) t308 t309 t310 t311 t312 _ ?side1 A26.out).mono ?_); (case side1 => exact Go.Proofs.YtbjlcipamdgnjaaDoor.Room.PowTab_below HG.out bl); rintro e w53 ⟨rfl, hb⟩; have n0_ := Aside0.mk (Kd.R_below (by (with_reducible repeat (first | apply Kd.R_alloc | apply Kd.R_drewN | apply Kd.R_drew)); exact HO_63.out) hb); have n1_ := Aside0.mk (below_step bl hb); clear HO_63; clear HB; have HO_63 := n0_; have HB := n1_; clear n0_ n1_; (try clear hb); (try clear hb2); (try clear hk); (try clear hi)) | ((with_reducible refine gate_dst (N := 13) rfl ?_); (try (refine gate_guard (by rfl) ?_; dsimp only)); refine box_event ?hg (N := 13) ?hd (cs := #[.int .i64 0, .bool false, .string (⟨#[]⟩ : ByteArray), .string (⟨#[]⟩ : ByteArray)]) (t := 28) ?hr ?_; (case hd => rfl); (case hg => rfl); (case hr => first | (go_simp; done) | (go_simp; rfl)); intro gb313 hg w54 hbox hb; have n0_ := Aside0.mk (Kd.R_below (by (with_reducible repeat (first | apply Kd.R_alloc | apply Kd.R_drewN | apply Kd.R_drew)); exact HO_63.out) hb); have n1_ := Aside0.mk (below_step bl hb); have n2_ := Aside0.mk (hbox); have n3_ := Aside0.mk ((by rw [hg]; exact (below_size bl) : w.heap.size ≤ gb313)); have n4_ := Aside0.mk ((by rw [hg]; exact (below_size bl) : w.heap.size ≤ gb313)); clear HO_63; clear HB; have HO_63 := n0_; have HB := n1_; have BK313 := n2_; have GW313 := n3_; have GE313 := n4_; clear n0_ n1_ n2_ n3_ n4_; clear hb hbox hg; have hcz55_0 : w54.cell? ⟨gb313, 0, none⟩ = some (.int .i64 0) := (blk_cell BK313.out 0).trans rfl; have hcz55_1 : w54.cell? ⟨gb313, 1, none⟩ = some (.bool false) := (blk_cell BK313.out 1).trans rfl; have hcz55_2 : w54.cell? ⟨gb313, 2, none⟩ = some (.string (⟨#[]⟩ : ByteArray)) := (blk_cell BK313.out 2).trans rfl; have hcz55_3 : w54.cell? ⟨gb313, 3, none⟩ = some (.string (⟨#[]⟩ : ByteArray)) := (blk_cell BK313.out 3).trans rfl; have hfz55_0 := blk_frozen BK313.out 0; have hfz55_1 := blk_frozen BK313.out 1; have hfz55_2 := blk_frozen BK313.out 2; have hfz55_3 := blk_frozen BK313.out 3) | (go_at_call 12; (try (rename_i hK_; simp only [List.append] at hK_)); (with_reducible refine (targumref6_Float12.calls k3 (rdOf ByteArray.empty y300 x65_3) t314 t315 t316 t317 t318 _ A27.out).mono ?_); rintro e w56 ⟨rfl, hb⟩; have n0_ := Aside0.mk (Kd.R_below (by (with_reducible repeat (first | apply Kd.R_alloc | apply Kd.R_drewN | apply Kd.R_drew)); exact (Kd.R_mono (Kd.R_far (p := ⟨gb313, 3, none⟩) (Kd.R_far (p := ⟨gb313, 2, none⟩) (Kd.R_far (p := ⟨gb313, 1, none⟩) (Kd.R_far (p := ⟨gb313, 0, none⟩) (Kd.R_types HO_63.out BK313.out (by decide)) (fun _ hk => hk.2) (.int .i64 t308)) (fun _ hk => hk.2) (.bool t309)) (fun _ hk => hk.2) (.string t310)) (fun _ hk => hk.2) (.string t311)) (fun _ h_ => h_.1))) hb); have n1_ := Aside0.mk (blk_below (g := gb313) (o := .cells #[.int .i64 t308, .bool t309, .string t310, .string t311] 28 (0, 0)) bk hb); have n2_ := Aside0.mk (below_step bl hb); clear HO_63; clear BK313; clear HB; have HO_63 := n0_; have BK313 := n1_; have HB := n2_; clear n0_ n1_ n2_; (try clear hb); (try clear hb2); (try clear hk); (try clear hi)) | ((with_reducible refine gate_dst (N := 15) rfl ?_); (try (refine gate_guard (by rfl) ?_; dsimp only)); refine box_event ?hg (N := 15) ?hd (cs := #[.int .i64 0, .bool false, .string (⟨#[]⟩ : ByteArray), .string (⟨#[]⟩ : ByteArray)]) (t := 28) ?hr ?_; (case hd => rfl); (case hg => rfl); (case hr => first | (go_simp; done) | (go_simp; rfl)); intro gb319 hg w57 hbox hb; have n0_ := Aside0.mk (Kd.R_below (by (with_reducible repeat (first | apply Kd.R_alloc | apply Kd.R_drewN | apply Kd.R_drew)); exact HO_63.out) hb); have n1_ := Aside0.mk (blk_below (g := gb313) (o := .cells #[.int .i64 t308, .bool t309, .string t310, .string t311] 28 (0, 0)) bk hb); have n2_ := Aside0.mk (below_step bl hb); have n3_ := Aside0.mk (hbox); have n4_ := Aside0.mk ((by rw [hg]; exact (below_size bl) : w.heap.size ≤ gb319)); have n5_ := Aside0.mk ((by rw [hg]; exact (below_size bl) : w.heap.size ≤ gb319)); have n6_ := Aside0.mk ((by rw [hg]; exact Nat.ne_of_lt (blk_lt (g := gb313) (o := .cells #[.int .i64 t308, .bool t309, .string t310, .string t311] 28 (0, 0)) bk) : gb313 ≠ gb319)); have n7_ := Aside0.mk ((by rw [hg]; exact Nat.ne_of_gt (blk_lt (g := gb313) (o := .cells #[.int .i64 t308, .bool t309, .string t310, .string t311] 28 (0, 0)) bk) : gb319 ≠ gb313)); clear HO_63; clear BK313; clear HB; have HO_63 := n0_; have BK313 := n1_; have HB := n2_; have BK319 := n3_; have GW319 := n4_; have GE319 := n5_; have NB313_319 := n6_; have NB319_313 := n7_; clear n0_ n1_ n2_ n3_ n4_ n5_ n6_ n7_; clear hb hbox hg; have hnb58 := NB319_313.out; have hnc58 := NB313_319.out; have hcz59_0 : w57.cell? ⟨gb319, 0, none⟩ = some (.int .i64 0) := (blk_cell BK319.out 0).trans rfl; have hcz59_1 : w57.cell? ⟨gb319, 1, none⟩ = some (.bool false) := (blk_cell BK319.out 1).trans rfl; have hcz59_2 : w57.cell? ⟨gb319, 2, none⟩ = some (.string (⟨#[]⟩ : ByteArray)) := (blk_cell BK319.out 2).trans rfl; have hcz59_3 : w57.cell? ⟨gb319, 3, none⟩ = some (.string (⟨#[]⟩ : ByteArray)) := (blk_cell BK319.out 3).trans rfl; have hfz59_0 := blk_frozen BK319.out 0; have hfz59_1 := blk_frozen BK319.out 1; have hfz59_2 := blk_frozen BK319.out 2; have hfz59_3 := blk_frozen BK319.out 3; have hcz60_0 : w57.cell? ⟨gb313, 0, none⟩ = some (.int .i64 t308) := (blk_cell BK313.out 0).trans rfl; have hcz60_1 : w57.cell? ⟨gb313, 1, none⟩ = some (.bool t309) := (blk_cell BK313.out 1).trans rfl; have hcz60_2 : w57.cell? ⟨gb313, 2, none⟩ = some (.string t310) := (blk_cell BK313.out 2).trans rfl; have hcz60_3 : w57.cell? ⟨gb313, 3, none⟩ = some (.string t311) := (blk_cell BK313.out 3).trans rfl; have hfz60_0 := blk_frozen BK313.out 0; have hfz60_1 := blk_frozen BK313.out 1; have hfz60_2 := blk_frozen BK313.out 2; have hfz60_3 := blk_frozen BK313.out 3))
                   skip
                  case' y4 =>
                   rw [if_neg c50] at H
                   have c50b0 : (t312 != t318) = false := by simpa using c50
                   (try (have c50b1 : decide (t312 = t318) = true := by simpa using c50))
                   (try (have c50b2 : (t312 == t318) = true := by simpa using c50))
                   clear c50
                   have H' := Aside0.mk H
                   clear H
                   have p303 : 0 ≤ (x65_3 : Int) := of_decide_eq_true (by first | (with_reducible assumption) | assumption)
                   have q303 : x65_3 < (y300.length : Int) := of_decide_eq_true (by first | (with_reducible assumption) | assumption)
                   obtain ⟨ad303, e303, hx303_0⟩ := Kd.at_string (Kd.R_reads' HO_63.out).2.2 x65_3 p303 q303
                   cases e303
                   replace p303 := eq_true p303
                   replace q303 := eq_true q303
                   go_wp2_with (first | (go_at_call 9; (try (rename_i hK_; simp only [List.append] at hK_)); (with_reducible refine (num12_Int.calls k3 (rdOf ByteArray.empty y300 x65_3) t304 t305 _ ?side1 A24.out).mono ?_); (case side1 => exact Go.Proofs.YtbjlcipamdgnjaaDoor.Room.PowTab_below HG.out bl); rintro e w61 ⟨rfl, hb⟩; have n0_ := Aside0.mk (Kd.R_below (by (with_reducible repeat (first | apply Kd.R_alloc | apply Kd.R_drewN | apply Kd.R_drew)); exact HO_63.out) hb); have n1_ := Aside0.mk (below_step bl hb); clear HO_63; clear HB; have HO_63 := n0_; have HB := n1_; clear n0_ n1_; (try clear hb); (try clear hb2); (try clear hk); (try clear hi)) | (go_at_call 10; (try (rename_i hK_; simp only [List.append] at hK_)); (with_reducible refine (targumref6_Int12.calls k3 (rdOf ByteArray.empty y300 x65_3) t306 t307 _ A25.out).mono ?_); rintro e w62 ⟨rfl, hb⟩; have n0_ := Aside0.mk (Kd.R_below (by (with_reducible repeat (first | apply Kd.R_alloc | apply Kd.R_drewN | apply Kd.R_drew)); exact HO_63.out) hb); have n1_ := Aside0.mk (below_step bl hb); clear HO_63; clear HB; have HO_63 := n0_; have HB := n1_; clear n0_ n1_; (try clear hb); (try clear hb2); (try clear hk); (try clear hi)) | (go_at_call 11; (try (rename_i hK_; simp only [List.append] at hK_)); (with_reducible refine (num12_Float.calls k3 (rdOf ByteArray.empty y300 x65_3) t308 t309 t310 t311 t312 _ ?side1 A26.out).mono ?_); (case side1 => exact Go.Proofs.YtbjlcipamdgnjaaDoor.Room.PowTab_below HG.out bl); rintro e w63 ⟨rfl, hb⟩; have n0_ := Aside0.mk (Kd.R_below (by (with_reducible repeat (first | apply Kd.R_alloc | apply Kd.R_drewN | apply Kd.R_drew)); exact HO_63.out) hb); have n1_ := Aside0.mk (below_step bl hb); clear HO_63; clear HB; have HO_63 := n0_; have HB := n1_; clear n0_ n1_; (try clear hb); (try clear hb2); (try clear hk); (try clear hi)) | ((with_reducible refine gate_dst (N := 13) rfl ?_); (try (refine gate_guard (by rfl) ?_; dsimp only)); refine box_event ?hg (N := 13) ?hd (cs := #[.int .i64 0, .bool false, .string (⟨#[]⟩ : ByteArray), .string (⟨#[]⟩ : ByteArray)]) (t := 28) ?hr ?_; (case hd => rfl); (case hg => rfl); (case hr => first | (go_simp; done) | (go_simp; rfl)); intro gb313 hg w64 hbox hb; have n0_ := Aside0.mk (Kd.R_below (by (with_reducible repeat (first | apply Kd.R_alloc | apply Kd.R_drewN | apply Kd.R_drew)); exact HO_63.out) hb); have n1_ := Aside0.mk (below_step bl hb); have n2_ := Aside0.mk (hbox); have n3_ := Aside0.mk ((by rw [hg]; exact (below_size bl) : w.heap.size ≤ gb313)); have n4_ := Aside0.mk ((by rw [hg]; exact (below_size bl) : w.heap.size ≤ gb313)); clear HO_63; clear HB; have HO_63 := n0_; have HB := n1_; have BK313 := n2_; have GW313 := n3_; have GE313 := n4_; clear n0_ n1_ n2_ n3_ n4_; clear hb hbox hg; have hcz65_0 : w64.cell? ⟨gb313, 0, none⟩ = some (.int .i64 0) := (blk_cell BK313.out 0).trans rfl; have hcz65_1 : w64.cell? ⟨gb313, 1, none⟩ = some (.bool false) := (blk_cell BK313.out 1).trans rfl; have hcz65_2 : w64.cell? ⟨gb313, 2, none⟩ = some (.string (⟨#[]⟩ : ByteArray)) := (blk_cell BK313.out 2).trans rfl; have hcz65_3 : w64.cell? ⟨gb313, 3, none⟩ = some (.string (⟨#[]⟩ : ByteArray)) := (blk_cell BK313.out 3).trans rfl; have hfz65_0 := blk_frozen BK313.out 0; have hfz65_1 := blk_frozen BK313.out 1; have hfz65_2 := blk_frozen BK313.out 2; have hfz65_3 := blk_frozen BK313.out 3) | (go_at_call 12; (try (rename_i hK_; simp only [List.append] at hK_)); (with_reducible refine (targumref6_Float12.calls k3 (rdOf ByteArray.empty y300 x65_3) t314 t315 t316 t317 t318 _ A27.out).mono ?_); rintro e w66 ⟨rfl, hb⟩; have n0_ := Aside0.mk (Kd.R_below (by (with_reducible repeat (first | apply Kd.R_alloc | apply Kd.R_drewN | apply Kd.R_drew)); exact (Kd.R_mono (Kd.R_far (p := ⟨gb313, 3, none⟩) (Kd.R_far (p := ⟨gb313, 2, none⟩) (Kd.R_far (p := ⟨gb313, 1, none⟩) (Kd.R_far (p := ⟨gb313, 0, none⟩) (Kd.R_types HO_63.out BK313.out (by decide)) (fun _ hk => hk.2) (.int .i64 t308)) (fun _ hk => hk.2) (.bool t309)) (fun _ hk => hk.2) (.string t310)) (fun _ hk => hk.2) (.string t311)) (fun _ h_ => h_.1))) hb); have n1_ := Aside0.mk (blk_below (g := gb313) (o := .cells #[.int .i64 t308, .bool t309, .string t310, .string t311] 28 (0, 0)) bk hb); have n2_ := Aside0.mk (below_step bl hb); clear HO_63; clear BK313; clear HB; have HO_63 := n0_; have BK313 := n1_; have HB := n2_; clear n0_ n1_ n2_; (try clear hb); (try clear hb2); (try clear hk); (try clear hi)) | ((with_reducible refine gate_dst (N := 15) rfl ?_); (try (refine gate_guard (by rfl) ?_; dsimp only)); refine box_event ?hg (N := 15) ?hd (cs := #[.int .i64 0, .bool false, .string (⟨#[]⟩ : ByteArray), .string (⟨#[]⟩ : ByteArray)]) (t := 28) ?hr ?_; (case hd => rfl); (case hg => rfl); (case hr => first | (go_simp; done) | (go_simp; rfl)); intro gb319 hg w67 hbox hb; have n0_ := Aside0.mk (Kd.R_below (by (with_reducible repeat (first | apply Kd.R_alloc | apply Kd.R_drewN | apply Kd.R_drew)); exact HO_63.out) hb); have n1_ := Aside0.mk (blk_below (g := gb313) (o := .cells #[.int .i64 t308, .bool t309, .string t310, .string t311] 28 (0, 0)) bk hb); have n2_ := Aside0.mk (below_step bl hb); have n3_ := Aside0.mk (hbox); have n4_ := Aside0.mk ((by rw [hg]; exact (below_size bl) : w.heap.size ≤ gb319)); have n5_ := Aside0.mk ((by rw [hg]; exact (below_size bl) : w.heap.size ≤ gb319)); have n6_ := Aside0.mk ((by rw [hg]; exact Nat.ne_of_lt (blk_lt (g := gb313) (o := .cells #[.int .i64 t308, .bool t309, .string t310, .string t311] 28 (0, 0)) bk) : gb313 ≠ gb319)); have n7_ := Aside0.mk ((by rw [hg]; exact Nat.ne_of_gt (blk_lt (g := gb313) (o := .cells #[.int .i64 t308, .bool t309, .string t310, .string t311] 28 (0, 0)) bk) : gb319 ≠ gb313)); clear HO_63; clear BK313; clear HB; have HO_63 := n0_; have BK313 := n1_; have HB := n2_; have BK319 := n3_; have GW319 := n4_; have GE319 := n5_; have NB313_319 := n6_; have NB319_313 := n7_; clear n0_ n1_ n2_ n3_ n4_ n5_ n6_ n7_; clear hb hbox hg; have hnb68 := NB319_313.out; have hnc68 := NB313_319.out; have hcz69_0 : w67.cell? ⟨gb319, 0, none⟩ = some (.int .i64 0) := (blk_cell BK319.out 0).trans rfl; have hcz69_1 : w67.cell? ⟨gb319, 1, none⟩ = some (.bool false) := (blk_cell BK319.out 1).trans rfl; have hcz69_2 : w67.cell? ⟨gb319, 2, none⟩ = some (.string (⟨#[]⟩ : ByteArray)) := (blk_cell BK319.out 2).trans rfl; have hcz69_3 : w67.cell? ⟨gb319, 3, none⟩ = some (.string (⟨#[]⟩ : ByteArray)) := (blk_cell BK319.out 3).trans rfl; have hfz69_0 := blk_frozen BK319.out 0; have hfz69_1 := blk_frozen BK319.out 1; have hfz69_2 := blk_frozen BK319.out 2; have hfz69_3 := blk_frozen BK319.out 3; have hcz70_0 : w67.cell? ⟨gb313, 0, none⟩ = some (.int .i64 t308) := (blk_cell BK313.out 0).trans rfl; have hcz70_1 : w67.cell? ⟨gb313, 1, none⟩ = some (.bool t309) := (blk_cell BK313.out 1).trans rfl; have hcz70_2 : w67.cell? ⟨gb313, 2, none⟩ = some (.string t310) := (blk_cell BK313.out 2).trans rfl; have hcz70_3 : w67.cell? ⟨gb313, 3, none⟩ = some (.string t311) := (blk_cell BK313.out 3).trans rfl; have hfz70_0 := blk_frozen BK313.out 0; have hfz70_1 := blk_frozen BK313.out 1; have hfz70_2 := blk_frozen BK313.out 2; have hfz70_3 := blk_frozen BK313.out 3))
                   repeat (go_quiet (first | (go_at_call 9; (try (rename_i hK_; simp only [List.append] at hK_)); (with_reducible refine (num12_Int.calls k3 (rdOf ByteArray.empty y300 x65_3) t304 t305 _ ?side1 A24.out).mono ?_); (case side1 => exact Go.Proofs.YtbjlcipamdgnjaaDoor.Room.PowTab_below HG.out bl); rintro e w61 ⟨rfl, hb⟩; have n0_ := Aside0.mk (Kd.R_below (by (with_reducible repeat (first | apply Kd.R_alloc | apply Kd.R_drewN | apply Kd.R_drew)); exact HO_63.out) hb); have n1_ := Aside0.mk (below_step bl hb); clear HO_63; clear HB; have HO_63 := n0_; have HB := n1_; clear n0_ n1_; (try clear hb); (try clear hb2); (try clear hk); (try clear hi)) | (go_at_call 10; (try (rename_i hK_; simp only [List.append] at hK_)); (with_reducible refine (targumref6_Int12.calls k3 (rdOf ByteArray.empty y300 x65_3) t306 t307 _ A25.out).mono ?_); rintro e w62 ⟨rfl, hb⟩; have n0_ := Aside0.mk (Kd.R_below (by (with_reducible repeat (first | apply Kd.R_alloc | apply Kd.R_drewN | apply Kd.R_drew)); exact HO_63.out) hb); have n1_ := Aside0.mk (below_step bl hb); clear HO_63; clear HB; have HO_63 := n0_; have HB := n1_; clear n0_ n1_; (try clear hb); (try clear hb2); (try clear hk); (try clear hi)) | (go_at_call 11; (try (rename_i hK_; simp only [List.append] at hK_)); (with_reducible refine (num12_Float.calls k3 (rdOf ByteArray.empty y300 x65_3) t308 t309 t310 t311 t312 _ ?side1 A26.out).mono ?_); (case side1 => exact Go.Proofs.YtbjlcipamdgnjaaDoor.Room.PowTab_below HG.out bl); rintro e w63 ⟨rfl, hb⟩; have n0_ := Aside0.mk (Kd.R_below (by (with_reducible repeat (first | apply Kd.R_alloc | apply Kd.R_drewN | apply Kd.R_drew)); exact HO_63.out) hb); have n1_ := Aside0.mk (below_step bl hb); clear HO_63; clear HB; have HO_63 := n0_; have HB := n1_; clear n0_ n1_; (try clear hb); (try clear hb2); (try clear hk); (try clear hi)) | ((with_reducible refine gate_dst (N := 13) rfl ?_); (try (refine gate_guard (by rfl) ?_; dsimp only)); refine box_event ?hg (N := 13) ?hd (cs := #[.int .i64 0, .bool false, .string (⟨#[]⟩ : ByteArray), .string (⟨#[]⟩ : ByteArray)]) (t := 28) ?hr ?_; (case hd => rfl); (case hg => rfl); (case hr => first | (go_simp; done) | (go_simp; rfl)); intro gb313 hg w64 hbox hb; have n0_ := Aside0.mk (Kd.R_below (by (with_reducible repeat (first | apply Kd.R_alloc | apply Kd.R_drewN | apply Kd.R_drew)); exact HO_63.out) hb); have n1_ := Aside0.mk (below_step bl hb); have n2_ := Aside0.mk (hbox); have n3_ := Aside0.mk ((by rw [hg]; exact (below_size bl) : w.heap.size ≤ gb313)); have n4_ := Aside0.mk ((by rw [hg]; exact (below_size bl) : w.heap.size ≤ gb313)); clear HO_63; clear HB; have HO_63 := n0_; have HB := n1_; have BK313 := n2_; have GW313 := n3_; have GE313 := n4_; clear n0_ n1_ n2_ n3_ n4_; clear hb hbox hg; have hcz65_0 : w64.cell? ⟨gb313, 0, none⟩ = some (.int .i64 0) := (blk_cell BK313.out 0).trans rfl; have hcz65_1 : w64.cell? ⟨gb313, 1, none⟩ = some (.bool false) := (blk_cell BK313.out 1).trans rfl; have hcz65_2 : w64.cell? ⟨gb313, 2, none⟩ = some (.string (⟨#[]⟩ : ByteArray)) := (blk_cell BK313.out 2).trans rfl; have hcz65_3 : w64.cell? ⟨gb313, 3, none⟩ = some (.string (⟨#[]⟩ : ByteArray)) := (blk_cell BK313.out 3).trans rfl; have hfz65_0 := blk_frozen BK313.out 0; have hfz65_1 := blk_frozen BK313.out 1; have hfz65_2 := blk_frozen BK313.out 2; have hfz65_3 := blk_frozen BK313.out 3) | (go_at_call 12; (try (rename_i hK_; simp only [List.append] at hK_)); (with_reducible refine (targumref6_Float12.calls k3 (rdOf ByteArray.empty y300 x65_3) t314 t315 t316 t317 t318 _ A27.out).mono ?_); rintro e w66 ⟨rfl, hb⟩; have n0_ := Aside0.mk (Kd.R_below (by (with_reducible repeat (first | apply Kd.R_alloc | apply Kd.R_drewN | apply Kd.R_drew)); exact (Kd.R_mono (Kd.R_far (p := ⟨gb313, 3, none⟩) (Kd.R_far (p := ⟨gb313, 2, none⟩) (Kd.R_far (p := ⟨gb313, 1, none⟩) (Kd.R_far (p := ⟨gb313, 0, none⟩) (Kd.R_types HO_63.out BK313.out (by decide)) (fun _ hk => hk.2) (.int .i64 t308)) (fun _ hk => hk.2) (.bool t309)) (fun _ hk => hk.2) (.string t310)) (fun _ hk => hk.2) (.string t311)) (fun _ h_ => h_.1))) hb); have n1_ := Aside0.mk (blk_below (g := gb313) (o := .cells #[.int .i64 t308, .bool t309, .string t310, .string t311] 28 (0, 0)) bk hb); have n2_ := Aside0.mk (below_step bl hb); clear HO_63; clear BK313; clear HB; have HO_63 := n0_; have BK313 := n1_; have HB := n2_; clear n0_ n1_ n2_; (try clear hb); (try clear hb2); (try clear hk); (try clear hi)) | ((with_reducible refine gate_dst (N := 15) rfl ?_); (try (refine gate_guard (by rfl) ?_; dsimp only)); refine box_event ?hg (N := 15) ?hd (cs := #[.int .i64 0, .bool false, .string (⟨#[]⟩ : ByteArray), .string (⟨#[]⟩ : ByteArray)]) (t := 28) ?hr ?_; (case hd => rfl); (case hg => rfl); (case hr => first | (go_simp; done) | (go_simp; rfl)); intro gb319 hg w67 hbox hb; have n0_ := Aside0.mk (Kd.R_below (by (with_reducible repeat (first | apply Kd.R_alloc | apply Kd.R_drewN | apply Kd.R_drew)); exact HO_63.out) hb); have n1_ := Aside0.mk (blk_below (g := gb313) (o := .cells #[.int .i64 t308, .bool t309, .string t310, .string t311] 28 (0, 0)) bk hb); have n2_ := Aside0.mk (below_step bl hb); have n3_ := Aside0.mk (hbox); have n4_ := Aside0.mk ((by rw [hg]; exact (below_size bl) : w.heap.size ≤ gb319)); have n5_ := Aside0.mk ((by rw [hg]; exact (below_size bl) : w.heap.size ≤ gb319)); have n6_ := Aside0.mk ((by rw [hg]; exact Nat.ne_of_lt (blk_lt (g := gb313) (o := .cells #[.int .i64 t308, .bool t309, .string t310, .string t311] 28 (0, 0)) bk) : gb313 ≠ gb319)); have n7_ := Aside0.mk ((by rw [hg]; exact Nat.ne_of_gt (blk_lt (g := gb313) (o := .cells #[.int .i64 t308, .bool t309, .string t310, .string t311] 28 (0, 0)) bk) : gb319 ≠ gb313)); clear HO_63; clear BK313; clear HB; have HO_63 := n0_; have BK313 := n1_; have HB := n2_; have BK319 := n3_; have GW319 := n4_; have GE319 := n5_; have NB313_319 := n6_; have NB319_313 := n7_; clear n0_ n1_ n2_ n3_ n4_ n5_ n6_ n7_; clear hb hbox hg; have hnb68 := NB319_313.out; have hnc68 := NB313_319.out; have hcz69_0 : w67.cell? ⟨gb319, 0, none⟩ = some (.int .i64 0) := (blk_cell BK319.out 0).trans rfl; have hcz69_1 : w67.cell? ⟨gb319, 1, none⟩ = some (.bool false) := (blk_cell BK319.out 1).trans rfl; have hcz69_2 : w67.cell? ⟨gb319, 2, none⟩ = some (.string (⟨#[]⟩ : ByteArray)) := (blk_cell BK319.out 2).trans rfl; have hcz69_3 : w67.cell? ⟨gb319, 3, none⟩ = some (.string (⟨#[]⟩ : ByteArray)) := (blk_cell BK319.out 3).trans rfl; have hfz69_0 := blk_frozen BK319.out 0; have hfz69_1 := blk_frozen BK319.out 1; have hfz69_2 := blk_frozen BK319.out 2; have hfz69_3 := blk_frozen BK319.out 3; have hcz70_0 : w67.cell? ⟨gb313, 0, none⟩ = some (.int .i64 t308) := (blk_cell BK313.out 0).trans rfl; have hcz70_1 : w67.cell? ⟨gb313, 1, none⟩ = some (.bool t309) := (blk_cell BK313.out 1).trans rfl; have hcz70_2 : w67.cell? ⟨gb313, 2, none⟩ = some (.string t310) := (blk_cell BK313.out 2).trans rfl; have hcz70_3 : w67.cell? ⟨gb313, 3, none⟩ = some (.string t311) := (blk_cell BK313.out 3).trans rfl; have hfz70_0 := blk_frozen BK313.out 0; have hfz70_1 := blk_frozen BK313.out 1; have hfz70_2 := blk_frozen BK313.out 2; have hfz70_3 := blk_frozen BK313.out 3)); try go_wp2_with (first | (go_at_call 9; (try (rename_i hK_; simp only [List.append] at hK_)); (with_reducible refine (num12_Int.calls k3 (rdOf ByteArray.empty y300 x65_3) t304 t305 _ ?side1 A24.out).mono ?_); (case side1 => exact Go.Proofs.YtbjlcipamdgnjaaDoor.Room.PowTab_below HG.out bl); rintro e w61 ⟨rfl, hb⟩; have n0_ := Aside0.mk (Kd.R_below (by (with_reducible repeat (first | apply Kd.R_alloc | apply Kd.R_drewN | apply Kd.R_drew)); exact HO_63.out) hb); have n1_ := Aside0.mk (below_step bl hb); clear HO_63; clear HB; have HO_63 := n0_; have HB := n1_; clear n0_ n1_; (try clear hb); (try clear hb2); (try clear hk); (try clear hi)) | (go_at_call 10; (try (rename_i hK_; simp only [List.append] at hK_)); (with_reducible refine (targumref6_Int12.calls k3 (rdOf ByteArray.empty y300 x65_3) t306 t307 _ A25.out).mono ?_); rintro e w62 ⟨rfl, hb⟩; have n0_ := Aside0.mk (Kd.R_below (by (with_reducible repeat (first | apply Kd.R_alloc | apply Kd.R_drewN | apply Kd.R_drew)); exact HO_63.out) hb); have n1_ := Aside0.mk (below_step bl hb); clear HO_63; clear HB; have HO_63 := n0_; have HB := n1_; clear n0_ n1_; (try clear hb); (try clear hb2); (try clear hk); (try clear hi)) | (go_at_call 11; (try (rename_i hK_; simp only [List.append] at hK_)); (with_reducible refine (num12_Float.calls k3 (rdOf ByteArray.empty y300 x65_3) t308 t309 t310 t311 t312 _ ?side1 A26.out).mono ?_); (case side1 => exact Go.Proofs.YtbjlcipamdgnjaaDoor.Room.PowTab_below HG.out bl); rintro e w63 ⟨rfl, hb⟩; have n0_ := Aside0.mk (Kd.R_below (by (with_reducible repeat (first | apply Kd.R_alloc | apply Kd.R_drewN | apply Kd.R_drew)); exact HO_63.out) hb); have n1_ := Aside0.mk (below_step bl hb); clear HO_63; clear HB; have HO_63 := n0_; have HB := n1_; clear n0_ n1_; (try clear hb); (try clear hb2); (try clear hk); (try clear hi)) | ((with_reducible refine gate_dst (N := 13) rfl ?_); (try (refine gate_guard (by rfl) ?_; dsimp only)); refine box_event ?hg (N := 13) ?hd (cs := #[.int .i64 0, .bool false, .string (⟨#[]⟩ : ByteArray), .string (⟨#[]⟩ : ByteArray)]) (t := 28) ?hr ?_; (case hd => rfl); (case hg => rfl); (case hr => first | (go_simp; done) | (go_simp; rfl)); intro gb313 hg w64 hbox hb; have n0_ := Aside0.mk (Kd.R_below (by (with_reducible repeat (first | apply Kd.R_alloc | apply Kd.R_drewN | apply Kd.R_drew)); exact HO_63.out) hb); have n1_ := Aside0.mk (below_step bl hb); have n2_ := Aside0.mk (hbox); have n3_ := Aside0.mk ((by rw [hg]; exact (below_size bl) : w.heap.size ≤ gb313)); have n4_ := Aside0.mk ((by rw [hg]; exact (below_size bl) : w.heap.size ≤ gb313)); clear HO_63; clear HB; have HO_63 := n0_; have HB := n1_; have BK313 := n2_; have GW313 := n3_; have GE313 := n4_; clear n0_ n1_ n2_ n3_ n4_; clear hb hbox hg; have hcz65_0 : w64.cell? ⟨gb313, 0, none⟩ = some (.int .i64 0) := (blk_cell BK313.out 0).trans rfl; have hcz65_1 : w64.cell? ⟨gb313, 1, none⟩ = some (.bool false) := (blk_cell BK313.out 1).trans rfl; have hcz65_2 : w64.cell? ⟨gb313, 2, none⟩ = some (.string (⟨#[]⟩ : ByteArray)) := (blk_cell BK313.out 2).trans rfl; have hcz65_3 : w64.cell? ⟨gb313, 3, none⟩ = some (.string (⟨#[]⟩ : ByteArray)) := (blk_cell BK313.out 3).trans rfl; have hfz65_0 := blk_frozen BK313.out 0; have hfz65_1 := blk_frozen BK313.out 1; have hfz65_2 := blk_frozen BK313.out 2; have hfz65_3 := blk_frozen BK313.out 3) | (go_at_call 12; (try (rename_i hK_; simp only [List.append] at hK_)); (with_reducible refine (targumref6_Float12.calls k3 (rdOf ByteArray.empty y300 x65_3) t314 t315 t316 t317 t318 _ A27.out).mono ?_); rintro e w66 ⟨rfl, hb⟩; have n0_ := Aside0.mk (Kd.R_below (by (with_reducible repeat (first | apply Kd.R_alloc | apply Kd.R_drewN | apply Kd.R_drew)); exact (Kd.R_mono (Kd.R_far (p := ⟨gb313, 3, none⟩) (Kd.R_far (p := ⟨gb313, 2, none⟩) (Kd.R_far (p := ⟨gb313, 1, none⟩) (Kd.R_far (p := ⟨gb313, 0, none⟩) (Kd.R_types HO_63.out BK313.out (by decide)) (fun _ hk => hk.2) (.int .i64 t308)) (fun _ hk => hk.2) (.bool t309)) (fun _ hk => hk.2) (.string t310)) (fun _ hk => hk.2) (.string t311)) (fun _ h_ => h_.1))) hb); have n1_ := Aside0.mk (blk_below (g := gb313) (o := .cells #[.int .i64 t308, .bool t309, .string t310, .string t311] 28 (0, 0)) bk hb); have n2_ := Aside0.mk (below_step bl hb); clear HO_63; clear BK313; clear HB; have HO_63 := n0_; have BK313 := n1_; have HB := n2_; clear n0_ n1_ n2_; (try clear hb); (try clear hb2); (try clear hk); (try clear hi)) | ((with_reducible refine gate_dst (N := 15) rfl ?_); (try (refine gate_guard (by rfl) ?_; dsimp only)); refine box_event ?hg (N := 15) ?hd (cs := #[.int .i64 0, .bool false, .string (⟨#[]⟩ : ByteArray), .string (⟨#[]⟩ : ByteArray)]) (t := 28) ?hr ?_; (case hd => rfl); (case hg => rfl); (case hr => first | (go_simp; done) | (go_simp; rfl)); intro gb319 hg w67 hbox hb; have n0_ := Aside0.mk (Kd.R_below (by (with_reducible repeat (first | apply Kd.R_alloc | apply Kd.R_drewN | apply Kd.R_drew)); exact HO_63.out) hb); have n1_ := Aside0.mk (blk_below (g := gb313) (o := .cells #[.int .i64 t308, .bool t309, .string t310, .string t311] 28 (0, 0)) bk hb); have n2_ := Aside0.mk (below_step bl hb); have n3_ := Aside0.mk (hbox); have n4_ := Aside0.mk ((by rw [hg]; exact (below_size bl) : w.heap.size ≤ gb319)); have n5_ := Aside0.mk ((by rw [hg]; exact (below_size bl) : w.heap.size ≤ gb319)); have n6_ := Aside0.mk ((by rw [hg]; exact Nat.ne_of_lt (blk_lt (g := gb313) (o := .cells #[.int .i64 t308, .bool t309, .string t310, .string t311] 28 (0, 0)) bk) : gb313 ≠ gb319)); have n7_ := Aside0.mk ((by rw [hg]; exact Nat.ne_of_gt (blk_lt (g := gb313) (o := .cells #[.int .i64 t308, .bool t309, .string t310, .string t311] 28 (0, 0)) bk) : gb319 ≠ gb313)); clear HO_63; clear BK313; clear HB; have HO_63 := n0_; have BK313 := n1_; have HB := n2_; have BK319 := n3_; have GW319 := n4_; have GE319 := n5_; have NB313_319 := n6_; have NB319_313 := n7_; clear n0_ n1_ n2_ n3_ n4_ n5_ n6_ n7_; clear hb hbox hg; have hnb68 := NB319_313.out; have hnc68 := NB313_319.out; have hcz69_0 : w67.cell? ⟨gb319, 0, none⟩ = some (.int .i64 0) := (blk_cell BK319.out 0).trans rfl; have hcz69_1 : w67.cell? ⟨gb319, 1, none⟩ = some (.bool false) := (blk_cell BK319.out 1).trans rfl; have hcz69_2 : w67.cell? ⟨gb319, 2, none⟩ = some (.string (⟨#[]⟩ : ByteArray)) := (blk_cell BK319.out 2).trans rfl; have hcz69_3 : w67.cell? ⟨gb319, 3, none⟩ = some (.string (⟨#[]⟩ : ByteArray)) := (blk_cell BK319.out 3).trans rfl; have hfz69_0 := blk_frozen BK319.out 0; have hfz69_1 := blk_frozen BK319.out 1; have hfz69_2 := blk_frozen BK319.out 2; have hfz69_3 := blk_frozen BK319.out 3; have hcz70_0 : w67.cell? ⟨gb313, 0, none⟩ = some (.int .i64 t308) := (blk_cell BK313.out 0).trans rfl; have hcz70_1 : w67.cell? ⟨gb313, 1, none⟩ = some (.bool t309) := (blk_cell BK313.out 1).trans rfl; have hcz70_2 : w67.cell? ⟨gb313, 2, none⟩ = some (.string t310) := (blk_cell BK313.out 2).trans rfl; have hcz70_3 : w67.cell? ⟨gb313, 3, none⟩ = some (.string t311) := (blk_cell BK313.out 3).trans rfl; have hfz70_0 := blk_frozen BK313.out 0; have hfz70_1 := blk_frozen BK313.out 1; have hfz70_2 := blk_frozen BK313.out 2; have hfz70_3 := blk_frozen BK313.out 3)))
                   go_roundg k3
                   case measure => have := HJ4.out; have := HK2.out; have := HK3.out; omega
                   case rel => exact ⟨(wrap64 (x65_3 + 1)), (by first | rfl | (simp; done) | (simp [*]; done) | (simp [wrap64]; done)), H', ⟨by have := HJ4.out; have := HK2.out; have := HK3.out; omega⟩, ⟨by (with_reducible repeat (first | apply Kd.R_alloc | apply Kd.R_drewN | apply Kd.R_drew)); exact Kd.R_mono (Kd.R_far (p := ⟨gb319, 3, none⟩) (Kd.R_far (p := ⟨gb319, 2, none⟩) (Kd.R_far (p := ⟨gb319, 1, none⟩) (Kd.R_far (p := ⟨gb319, 0, none⟩) (Kd.R_types HO_63.out BK319.out (by decide)) (fun _ hk => hk.2) (.int .i64 t314)) (fun _ hk => hk.2) (.bool t315)) (fun _ hk => hk.2) (.string t316)) (fun _ hk => hk.2) (.string t317)) (fun _ hk => trivial)⟩, ⟨bl⟩⟩
               case' y1 =>
                rw [if_neg c28] at H
                have c28b0 : (t304.toList == t306.toList) = false := beq_eq_false_iff_ne.mpr c28
                have c28b1 : (t304.toList != t306.toList) = true := bne_iff_ne.mpr c28
                obtain rfl := Option.some.inj H
                have p303 : 0 ≤ (x65_3 : Int) := of_decide_eq_true (by first | (with_reducible assumption) | assumption)
                have q303 : x65_3 < (y300.length : Int) := of_decide_eq_true (by first | (with_reducible assumption) | assumption)
                obtain ⟨ad303, e303, hx303_0⟩ := Kd.at_string (Kd.R_reads' HO_63.out).2.2 x65_3 p303 q303
                cases e303
                replace p303 := eq_true p303
                replace q303 := eq_true q303
                go_wp2_with (first | (go_at_call 9; (try (rename_i hK_; simp only [List.append] at hK_)); (with_reducible refine (num12_Int.calls k3 (rdOf ByteArray.empty y300 x65_3) t304 t305 _ ?side1 A24.out).mono ?_); (case side1 => exact Go.Proofs.YtbjlcipamdgnjaaDoor.Room.PowTab_below HG.out bl); rintro e w71 ⟨rfl, hb⟩; have n0_ := Aside0.mk (Kd.R_below (by (with_reducible repeat (first | apply Kd.R_alloc | apply Kd.R_drewN | apply Kd.R_drew)); exact HO_63.out) hb); have n1_ := Aside0.mk (below_step bl hb); clear HO_63; clear HB; have HO_63 := n0_; have HB := n1_; clear n0_ n1_; (try clear hb); (try clear hb2); (try clear hk); (try clear hi)) | (go_at_call 10; (try (rename_i hK_; simp only [List.append] at hK_)); (with_reducible refine (targumref6_Int12.calls k3 (rdOf ByteArray.empty y300 x65_3) t306 t307 _ A25.out).mono ?_); rintro e w72 ⟨rfl, hb⟩; have n0_ := Aside0.mk (Kd.R_below (by (with_reducible repeat (first | apply Kd.R_alloc | apply Kd.R_drewN | apply Kd.R_drew)); exact HO_63.out) hb); have n1_ := Aside0.mk (below_step bl hb); clear HO_63; clear HB; have HO_63 := n0_; have HB := n1_; clear n0_ n1_; (try clear hb); (try clear hb2); (try clear hk); (try clear hi)) | (go_at_call 11; (try (rename_i hK_; simp only [List.append] at hK_)); (with_reducible refine (num12_Float.calls k3 (rdOf ByteArray.empty y300 x65_3) t308 t309 t310 t311 t312 _ ?side1 A26.out).mono ?_); (case side1 => exact Go.Proofs.YtbjlcipamdgnjaaDoor.Room.PowTab_below HG.out bl); rintro e w73 ⟨rfl, hb⟩; have n0_ := Aside0.mk (Kd.R_below (by (with_reducible repeat (first | apply Kd.R_alloc | apply Kd.R_drewN | apply Kd.R_drew)); exact HO_63.out) hb); have n1_ := Aside0.mk (below_step bl hb); clear HO_63; clear HB; have HO_63 := n0_; have HB := n1_; clear n0_ n1_; (try clear hb); (try clear hb2); (try clear hk); (try clear hi)) | ((with_reducible refine gate_dst (N := 13) rfl ?_); (try (refine gate_guard (by rfl) ?_; dsimp only)); refine box_event ?hg (N := 13) ?hd (cs := #[.int .i64 0, .bool false, .string (⟨#[]⟩ : ByteArray), .string (⟨#[]⟩ : ByteArray)]) (t := 28) ?hr ?_; (case hd => rfl); (case hg => rfl); (case hr => first | (go_simp; done) | (go_simp; rfl)); intro gb313 hg w74 hbox hb; have n0_ := Aside0.mk (Kd.R_below (by (with_reducible repeat (first | apply Kd.R_alloc | apply Kd.R_drewN | apply Kd.R_drew)); exact HO_63.out) hb); have n1_ := Aside0.mk (below_step bl hb); have n2_ := Aside0.mk (hbox); have n3_ := Aside0.mk ((by rw [hg]; exact (below_size bl) : w.heap.size ≤ gb313)); have n4_ := Aside0.mk ((by rw [hg]; exact (below_size bl) : w.heap.size ≤ gb313)); clear HO_63; clear HB; have HO_63 := n0_; have HB := n1_; have BK313 := n2_; have GW313 := n3_; have GE313 := n4_; clear n0_ n1_ n2_ n3_ n4_; clear hb hbox hg; have hcz75_0 : w74.cell? ⟨gb313, 0, none⟩ = some (.int .i64 0) := (blk_cell BK313.out 0).trans rfl; have hcz75_1 : w74.cell? ⟨gb313, 1, none⟩ = some (.bool false) := (blk_cell BK313.out 1).trans rfl; have hcz75_2 : w74.cell? ⟨gb313, 2, none⟩ = some (.string (⟨#[]⟩ : ByteArray)) := (blk_cell BK313.out 2).trans rfl; have hcz75_3 : w74.cell? ⟨gb313, 3, none⟩ = some (.string (⟨#[]⟩ : ByteArray)) := (blk_cell BK313.out 3).trans rfl; have hfz75_0 := blk_frozen BK313.out 0; have hfz75_1 := blk_frozen BK313.out 1; have hfz75_2 := blk_frozen BK313.out 2; have hfz75_3 := blk_frozen BK313.out 3) | (go_at_call 12; (try (rename_i hK_; simp only [List.append] at hK_)); (with_reducible refine (targumref6_Float12.calls k3 (rdOf ByteArray.empty y300 x65_3) t314 t315 t316 t317 t318 _ A27.out).mono ?_); rintro e w76 ⟨rfl, hb⟩; have n0_ := Aside0.mk (Kd.R_below (by (with_reducible repeat (first | apply Kd.R_alloc | apply Kd.R_drewN | apply Kd.R_drew)); exact (Kd.R_mono (Kd.R_far (p := ⟨gb313, 3, none⟩) (Kd.R_far (p := ⟨gb313, 2, none⟩) (Kd.R_far (p := ⟨gb313, 1, none⟩) (Kd.R_far (p := ⟨gb313, 0, none⟩) (Kd.R_types HO_63.out BK313.out (by decide)) (fun _ hk => hk.2) (.int .i64 t308)) (fun _ hk => hk.2) (.bool t309)) (fun _ hk => hk.2) (.string t310)) (fun _ hk => hk.2) (.string t311)) (fun _ h_ => h_.1))) hb); have n1_ := Aside0.mk (blk_below (g := gb313) (o := .cells #[.int .i64 t308, .bool t309, .string t310, .string t311] 28 (0, 0)) bk hb); have n2_ := Aside0.mk (below_step bl hb); clear HO_63; clear BK313; clear HB; have HO_63 := n0_; have BK313 := n1_; have HB := n2_; clear n0_ n1_ n2_; (try clear hb); (try clear hb2); (try clear hk); (try clear hi)) | ((with_reducible refine gate_dst (N := 15) rfl ?_); (try (refine gate_guard (by rfl) ?_; dsimp only)); refine box_event ?hg (N := 15) ?hd (cs := #[.int .i64 0, .bool false, .string (⟨#[]⟩ : ByteArray), .string (⟨#[]⟩ : ByteArray)]) (t := 28) ?hr ?_; (case hd => rfl); (case hg => rfl); (case hr => first | (go_simp; done) | (go_simp; rfl)); intro gb319 hg w77 hbox hb; have n0_ := Aside0.mk (Kd.R_below (by (with_reducible repeat (first | apply Kd.R_alloc | apply Kd.R_drewN | apply Kd.R_drew)); exact HO_63.out) hb); have n1_ := Aside0.mk (blk_below (g := gb313) (o := .cells #[.int .i64 t308, .bool t309, .string t310, .string t311] 28 (0, 0)) bk hb); have n2_ := Aside0.mk (below_step bl hb); have n3_ := Aside0.mk (hbox); have n4_ := Aside0.mk ((by rw [hg]; exact (below_size bl) : w.heap.size ≤ gb319)); have n5_ := Aside0.mk ((by rw [hg]; exact (below_size bl) : w.heap.size ≤ gb319)); have n6_ := Aside0.mk ((by rw [hg]; exact Nat.ne_of_lt (blk_lt (g := gb313) (o := .cells #[.int .i64 t308, .bool t309, .string t310, .string t311] 28 (0, 0)) bk) : gb313 ≠ gb319)); have n7_ := Aside0.mk ((by rw [hg]; exact Nat.ne_of_gt (blk_lt (g := gb313) (o := .cells #[.int .i64 t308, .bool t309, .string t310, .string t311] 28 (0, 0)) bk) : gb319 ≠ gb313)); clear HO_63; clear BK313; clear HB; have HO_63 := n0_; have BK313 := n1_; have HB := n2_; have BK319 := n3_; have GW319 := n4_; have GE319 := n5_; have NB313_319 := n6_; have NB319_313 := n7_; clear n0_ n1_ n2_ n3_ n4_ n5_ n6_ n7_; clear hb hbox hg; have hnb78 := NB319_313.out; have hnc78 := NB313_319.out; have hcz79_0 : w77.cell? ⟨gb319, 0, none⟩ = some (.int .i64 0) := (blk_cell BK319.out 0).trans rfl; have hcz79_1 : w77.cell? ⟨gb319, 1, none⟩ = some (.bool false) := (blk_cell BK319.out 1).trans rfl; have hcz79_2 : w77.cell? ⟨gb319, 2, none⟩ = some (.string (⟨#[]⟩ : ByteArray)) := (blk_cell BK319.out 2).trans rfl; have hcz79_3 : w77.cell? ⟨gb319, 3, none⟩ = some (.string (⟨#[]⟩ : ByteArray)) := (blk_cell BK319.out 3).trans rfl; have hfz79_0 := blk_frozen BK319.out 0; have hfz79_1 := blk_frozen BK319.out 1; have hfz79_2 := blk_frozen BK319.out 2; have hfz79_3 := blk_frozen BK319.out 3))
                skip
               case x2 | x3 | y3 | y1 =>
                as_aux_lemma =>
                 repeat (go_quiet (first | (go_at_call 9; (try (rename_i hK_; simp only [List.append] at hK_)); (with_reducible refine (num12_Int.calls _ _ _ _ _ ?side1 A24.out).mono ?_); (case side1 => exact Go.Proofs.YtbjlcipamdgnjaaDoor.Room.PowTab_below HG.out bl); rintro e w40 ⟨rfl, hb⟩; have n0_ := Aside0.mk (Kd.R_below (by (with_reducible repeat (first | apply Kd.R_alloc | apply Kd.R_drewN | apply Kd.R_drew)); exact HO_63.out) hb); have n1_ := Aside0.mk (below_step bl hb); clear HO_63; clear HB; have HO_63 := n0_; have HB := n1_; clear n0_ n1_; (try clear hb); (try clear hb2); (try clear hk); (try clear hi)) | (go_at_call 10; (try (rename_i hK_; simp only [List.append] at hK_)); (with_reducible refine (targumref6_Int12.calls _ _ _ _ _ A25.out).mono ?_); rintro e w41 ⟨rfl, hb⟩; have n0_ := Aside0.mk (Kd.R_below (by (with_reducible repeat (first | apply Kd.R_alloc | apply Kd.R_drewN | apply Kd.R_drew)); exact HO_63.out) hb); have n1_ := Aside0.mk (below_step bl hb); clear HO_63; clear HB; have HO_63 := n0_; have HB := n1_; clear n0_ n1_; (try clear hb); (try clear hb2); (try clear hk); (try clear hi)) | (go_at_call 11; (try (rename_i hK_; simp only [List.append] at hK_)); (with_reducible refine (num12_Float.calls _ _ _ _ _ _ _ _ ?side1 A26.out).mono ?_); (case side1 => exact Go.Proofs.YtbjlcipamdgnjaaDoor.Room.PowTab_below HG.out bl); rintro e w42 ⟨rfl, hb⟩; have n0_ := Aside0.mk (Kd.R_below (by (with_reducible repeat (first | apply Kd.R_alloc | apply Kd.R_drewN | apply Kd.R_drew)); exact HO_63.out) hb); have n1_ := Aside0.mk (below_step bl hb); clear HO_63; clear HB; have HO_63 := n0_; have HB := n1_; clear n0_ n1_; (try clear hb); (try clear hb2); (try clear hk); (try clear hi)) | ((with_reducible refine gate_dst (N := 13) rfl ?_); (try (refine gate_guard (by rfl) ?_; dsimp only)); refine box_event ?hg (N := 13) ?hd (cs := #[.int .i64 0, .bool false, .string (⟨#[]⟩ : ByteArray), .string (⟨#[]⟩ : ByteArray)]) (t := 28) ?hr ?_; (case hd => rfl); (case hg => rfl); (case hr => first | (go_simp; done) | (go_simp; rfl)); intro gb313 hg w43 hbox hb; have n0_ := Aside0.mk (Kd.R_below (by (with_reducible repeat (first | apply Kd.R_alloc | apply Kd.R_drewN | apply Kd.R_drew)); exact HO_63.out) hb); have n1_ := Aside0.mk (below_step bl hb); have n2_ := Aside0.mk (hbox); have n3_ := Aside0.mk ((by rw [hg]; exact (below_size bl) : w.heap.size ≤ gb313)); have n4_ := Aside0.mk ((by rw [hg]; exact (below_size bl) : w.heap.size ≤ gb313)); clear HO_63; clear HB; have HO_63 := n0_; have HB := n1_; have BK313 := n2_; have GW313 := n3_; have GE313 := n4_; clear n0_ n1_ n2_ n3_ n4_; clear hb hbox hg; have hcz44_0 : w43.cell? ⟨gb313, 0, none⟩ = some (.int .i64 0) := (blk_cell BK313.out 0).trans rfl; have hcz44_1 : w43.cell? ⟨gb313, 1, none⟩ = some (.bool false) := (blk_cell BK313.out 1).trans rfl; have hcz44_2 : w43.cell? ⟨gb313, 2, none⟩ = some (.string (⟨#[]⟩ : ByteArray)) := (blk_cell BK313.out 2).trans rfl; have hcz44_3 : w43.cell? ⟨gb313, 3, none⟩ = some (.string (⟨#[]⟩ : ByteArray)) := (blk_cell BK313.out 3).trans rfl; have hfz44_0 := blk_frozen BK313.out 0; have hfz44_1 := blk_frozen BK313.out 1; have hfz44_2 := blk_frozen BK313.out 2; have hfz44_3 := blk_frozen BK313.out 3) | (go_at_call 12; (try (rename_i hK_; simp only [List.append] at hK_)); (with_reducible refine (targumref6_Float12.calls _ _ _ _ _ _ _ _ A27.out).mono ?_); rintro e w45 ⟨rfl, hb⟩; have n0_ := Aside0.mk (Kd.R_below (by (with_reducible repeat (first | apply Kd.R_alloc | apply Kd.R_drewN | apply Kd.R_drew)); exact (Kd.R_mono (Kd.R_far (p := ⟨gb313, 3, none⟩) (Kd.R_far (p := ⟨gb313, 2, none⟩) (Kd.R_far (p := ⟨gb313, 1, none⟩) (Kd.R_far (p := ⟨gb313, 0, none⟩) (Kd.R_types HO_63.out BK313.out (by decide)) (fun _ hk => hk.2) (.int .i64 t308)) (fun _ hk => hk.2) (.bool t309)) (fun _ hk => hk.2) (.string t310)) (fun _ hk => hk.2) (.string t311)) (fun _ h_ => h_.1))) hb); have n1_ := Aside0.mk (blk_below (g := gb313) (o := .cells #[.int .i64 t308, .bool t309, .string t310, .string t311] 28 (0, 0)) bk hb); have n2_ := Aside0.mk (below_step bl hb); clear HO_63; clear BK313; clear HB; have HO_63 := n0_; have BK313 := n1_; have HB := n2_; clear n0_ n1_ n2_; (try clear hb); (try clear hb2); (try clear hk); (try clear hi)) | ((with_reducible refine gate_dst (N := 15) rfl ?_); (try (refine gate_guard (by rfl) ?_; dsimp only)); refine box_event ?hg (N := 15) ?hd (cs := #[.int .i64 0, .bool false, .string (⟨#[]⟩ : ByteArray), .string (⟨#[]⟩ : ByteArray)]) (t := 28) ?hr ?_; (case hd => rfl); (case hg => rfl); (case hr => first | (go_simp; done) | (go_simp; rfl)); intro gb319 hg w46 hbox hb; have n0_ := Aside0.mk (Kd.R_below (by (with_reducible repeat (first | apply Kd.R_alloc | apply Kd.R_drewN | apply Kd.R_drew)); exact HO_63.out) hb); have n1_ := Aside0.mk (blk_below (g := gb313) (o := .cells #[.int .i64 t308, .bool t309, .string t310, .string t311] 28 (0, 0)) bk hb); have n2_ := Aside0.mk (below_step bl hb); have n3_ := Aside0.mk (hbox); have n4_ := Aside0.mk ((by rw [hg]; exact (below_size bl) : w.heap.size ≤ gb319)); have n5_ := Aside0.mk ((by rw [hg]; exact (below_size bl) : w.heap.size ≤ gb319)); have n6_ := Aside0.mk ((by rw [hg]; exact Nat.ne_of_lt (blk_lt (g := gb313) (o := .cells #[.int .i64 t308, .bool t309, .string t310, .string t311] 28 (0, 0)) bk) : gb313 ≠ gb319)); have n7_ := Aside0.mk ((by rw [hg]; exact Nat.ne_of_gt (blk_lt (g := gb313) (o := .cells #[.int .i64 t308, .bool t309, .string t310, .string t311] 28 (0, 0)) bk) : gb319 ≠ gb313)); clear HO_63; clear BK313; clear HB; have HO_63 := n0_; have BK313 := n1_; have HB := n2_; have BK319 := n3_; have GW319 := n4_; have GE319 := n5_; have NB313_319 := n6_; have NB319_313 := n7_; clear n0_ n1_ n2_ n3_ n4_ n5_ n6_ n7_; clear hb hbox hg; have hnb47 := NB319_313.out; have hnc47 := NB313_319.out; have hcz48_0 : w46.cell? ⟨gb319, 0, none⟩ = some (.int .i64 0) := (blk_cell BK319.out 0).trans rfl; have hcz48_1 : w46.cell? ⟨gb319, 1, none⟩ = some (.bool false) := (blk_cell BK319.out 1).trans rfl; have hcz48_2 : w46.cell? ⟨gb319, 2, none⟩ = some (.string (⟨#[]⟩ : ByteArray)) := (blk_cell BK319.out 2).trans rfl; have hcz48_3 : w46.cell? ⟨gb319, 3, none⟩ = some (.string (⟨#[]⟩ : ByteArray)) := (blk_cell BK319.out 3).trans rfl; have hfz48_0 := blk_frozen BK319.out 0; have hfz48_1 := blk_frozen BK319.out 1; have hfz48_2 := blk_frozen BK319.out 2; have hfz48_3 := blk_frozen BK319.out 3; have hcz49_0 : w46.cell? ⟨gb313, 0, none⟩ = some (.int .i64 t308) := (blk_cell BK313.out 0).trans rfl; have hcz49_1 : w46.cell? ⟨gb313, 1, none⟩ = some (.bool t309) := (blk_cell BK313.out 1).trans rfl; have hcz49_2 : w46.cell? ⟨gb313, 2, none⟩ = some (.string t310) := (blk_cell BK313.out 2).trans rfl; have hcz49_3 : w46.cell? ⟨gb313, 3, none⟩ = some (.string t311) := (blk_cell BK313.out 3).trans rfl; have hfz49_0 := blk_frozen BK313.out 0; have hfz49_1 := blk_frozen BK313.out 1; have hfz49_2 := blk_frozen BK313.out 2; have hfz49_3 := blk_frozen BK313.out 3)); try go_wp2_with (first | (go_at_call 9; (try (rename_i hK_; simp only [List.append] at hK_)); (with_reducible refine (num12_Int.calls _ _ _ _ _ ?side1 A24.out).mono ?_); (case side1 => exact Go.Proofs.YtbjlcipamdgnjaaDoor.Room.PowTab_below HG.out bl); rintro e w40 ⟨rfl, hb⟩; have n0_ := Aside0.mk (Kd.R_below (by (with_reducible repeat (first | apply Kd.R_alloc | apply Kd.R_drewN | apply Kd.R_drew)); exact HO_63.out) hb); have n1_ := Aside0.mk (below_step bl hb); clear HO_63; clear HB; have HO_63 := n0_; have HB := n1_; clear n0_ n1_; (try clear hb); (try clear hb2); (try clear hk); (try clear hi)) | (go_at_call 10; (try (rename_i hK_; simp only [List.append] at hK_)); (with_reducible refine (targumref6_Int12.calls _ _ _ _ _ A25.out).mono ?_); rintro e w41 ⟨rfl, hb⟩; have n0_ := Aside0.mk (Kd.R_below (by (with_reducible repeat (first | apply Kd.R_alloc | apply Kd.R_drewN | apply Kd.R_drew)); exact HO_63.out) hb); have n1_ := Aside0.mk (below_step bl hb); clear HO_63; clear HB; have HO_63 := n0_; have HB := n1_; clear n0_ n1_; (try clear hb); (try clear hb2); (try clear hk); (try clear hi)) | (go_at_call 11; (try (rename_i hK_; simp only [List.append] at hK_)); (with_reducible refine (num12_Float.calls _ _ _ _ _ _ _ _ ?side1 A26.out).mono ?_); (case side1 => exact Go.Proofs.YtbjlcipamdgnjaaDoor.Room.PowTab_below HG.out bl); rintro e w42 ⟨rfl, hb⟩; have n0_ := Aside0.mk (Kd.R_below (by (with_reducible repeat (first | apply Kd.R_alloc | apply Kd.R_drewN | apply Kd.R_drew)); exact HO_63.out) hb); have n1_ := Aside0.mk (below_step bl hb); clear HO_63; clear HB; have HO_63 := n0_; have HB := n1_; clear n0_ n1_; (try clear hb); (try clear hb2); (try clear hk); (try clear hi)) | ((with_reducible refine gate_dst (N := 13) rfl ?_); (try (refine gate_guard (by rfl) ?_; dsimp only)); refine box_event ?hg (N := 13) ?hd (cs := #[.int .i64 0, .bool false, .string (⟨#[]⟩ : ByteArray), .string (⟨#[]⟩ : ByteArray)]) (t := 28) ?hr ?_; (case hd => rfl); (case hg => rfl); (case hr => first | (go_simp; done) | (go_simp; rfl)); intro gb313 hg w43 hbox hb; have n0_ := Aside0.mk (Kd.R_below (by (with_reducible repeat (first | apply Kd.R_alloc | apply Kd.R_drewN | apply Kd.R_drew)); exact HO_63.out) hb); have n1_ := Aside0.mk (below_step bl hb); have n2_ := Aside0.mk (hbox); have n3_ := Aside0.mk ((by rw [hg]; exact (below_size bl) : w.heap.size ≤ gb313)); have n4_ := Aside0.mk ((by rw [hg]; exact (below_size bl) : w.heap.size ≤ gb313)); clear HO_63; clear HB; have HO_63 := n0_; have HB := n1_; have BK313 := n2_; have GW313 := n3_; have GE313 := n4_; clear n0_ n1_ n2_ n3_ n4_; clear hb hbox hg; have hcz44_0 : w43.cell? ⟨gb313, 0, none⟩ = some (.int .i64 0) := (blk_cell BK313.out 0).trans rfl; have hcz44_1 : w43.cell? ⟨gb313, 1, none⟩ = some (.bool false) := (blk_cell BK313.out 1).trans rfl; have hcz44_2 : w43.cell? ⟨gb313, 2, none⟩ = some (.string (⟨#[]⟩ : ByteArray)) := (blk_cell BK313.out 2).trans rfl; have hcz44_3 : w43.cell? ⟨gb313, 3, none⟩ = some (.string (⟨#[]⟩ : ByteArray)) := (blk_cell BK313.out 3).trans rfl; have hfz44_0 := blk_frozen BK313.out 0; have hfz44_1 := blk_frozen BK313.out 1; have hfz44_2 := blk_frozen BK313.out 2; have hfz44_3 := blk_frozen BK313.out 3) | (go_at_call 12; (try (rename_i hK_; simp only [List.append] at hK_)); (with_reducible refine (targumref6_Float12.calls _ _ _ _ _ _ _ _ A27.out).mono ?_); rintro e w45 ⟨rfl, hb⟩; have n0_ := Aside0.mk (Kd.R_below (by (with_reducible repeat (first | apply Kd.R_alloc | apply Kd.R_drewN | apply Kd.R_drew)); exact (Kd.R_mono (Kd.R_far (p := ⟨gb313, 3, none⟩) (Kd.R_far (p := ⟨gb313, 2, none⟩) (Kd.R_far (p := ⟨gb313, 1, none⟩) (Kd.R_far (p := ⟨gb313, 0, none⟩) (Kd.R_types HO_63.out BK313.out (by decide)) (fun _ hk => hk.2) (.int .i64 t308)) (fun _ hk => hk.2) (.bool t309)) (fun _ hk => hk.2) (.string t310)) (fun _ hk => hk.2) (.string t311)) (fun _ h_ => h_.1))) hb); have n1_ := Aside0.mk (blk_below (g := gb313) (o := .cells #[.int .i64 t308, .bool t309, .string t310, .string t311] 28 (0, 0)) bk hb); have n2_ := Aside0.mk (below_step bl hb); clear HO_63; clear BK313; clear HB; have HO_63 := n0_; have BK313 := n1_; have HB := n2_; clear n0_ n1_ n2_; (try clear hb); (try clear hb2); (try clear hk); (try clear hi)) | ((with_reducible refine gate_dst (N := 15) rfl ?_); (try (refine gate_guard (by rfl) ?_; dsimp only)); refine box_event ?hg (N := 15) ?hd (cs := #[.int .i64 0, .bool false, .string (⟨#[]⟩ : ByteArray), .string (⟨#[]⟩ : ByteArray)]) (t := 28) ?hr ?_; (case hd => rfl); (case hg => rfl); (case hr => first | (go_simp; done) | (go_simp; rfl)); intro gb319 hg w46 hbox hb; have n0_ := Aside0.mk (Kd.R_below (by (with_reducible repeat (first | apply Kd.R_alloc | apply Kd.R_drewN | apply Kd.R_drew)); exact HO_63.out) hb); have n1_ := Aside0.mk (blk_below (g := gb313) (o := .cells #[.int .i64 t308, .bool t309, .string t310, .string t311] 28 (0, 0)) bk hb); have n2_ := Aside0.mk (below_step bl hb); have n3_ := Aside0.mk (hbox); have n4_ := Aside0.mk ((by rw [hg]; exact (below_size bl) : w.heap.size ≤ gb319)); have n5_ := Aside0.mk ((by rw [hg]; exact (below_size bl) : w.heap.size ≤ gb319)); have n6_ := Aside0.mk ((by rw [hg]; exact Nat.ne_of_lt (blk_lt (g := gb313) (o := .cells #[.int .i64 t308, .bool t309, .string t310, .string t311] 28 (0, 0)) bk) : gb313 ≠ gb319)); have n7_ := Aside0.mk ((by rw [hg]; exact Nat.ne_of_gt (blk_lt (g := gb313) (o := .cells #[.int .i64 t308, .bool t309, .string t310, .string t311] 28 (0, 0)) bk) : gb319 ≠ gb313)); clear HO_63; clear BK313; clear HB; have HO_63 := n0_; have BK313 := n1_; have HB := n2_; have BK319 := n3_; have GW319 := n4_; have GE319 := n5_; have NB313_319 := n6_; have NB319_313 := n7_; clear n0_ n1_ n2_ n3_ n4_ n5_ n6_ n7_; clear hb hbox hg; have hnb47 := NB319_313.out; have hnc47 := NB313_319.out; have hcz48_0 : w46.cell? ⟨gb319, 0, none⟩ = some (.int .i64 0) := (blk_cell BK319.out 0).trans rfl; have hcz48_1 : w46.cell? ⟨gb319, 1, none⟩ = some (.bool false) := (blk_cell BK319.out 1).trans rfl; have hcz48_2 : w46.cell? ⟨gb319, 2, none⟩ = some (.string (⟨#[]⟩ : ByteArray)) := (blk_cell BK319.out 2).trans rfl; have hcz48_3 : w46.cell? ⟨gb319, 3, none⟩ = some (.string (⟨#[]⟩ : ByteArray)) := (blk_cell BK319.out 3).trans rfl; have hfz48_0 := blk_frozen BK319.out 0; have hfz48_1 := blk_frozen BK319.out 1; have hfz48_2 := blk_frozen BK319.out 2; have hfz48_3 := blk_frozen BK319.out 3; have hcz49_0 : w46.cell? ⟨gb313, 0, none⟩ = some (.int .i64 t308) := (blk_cell BK313.out 0).trans rfl; have hcz49_1 : w46.cell? ⟨gb313, 1, none⟩ = some (.bool t309) := (blk_cell BK313.out 1).trans rfl; have hcz49_2 : w46.cell? ⟨gb313, 2, none⟩ = some (.string t310) := (blk_cell BK313.out 2).trans rfl; have hcz49_3 : w46.cell? ⟨gb313, 3, none⟩ = some (.string t311) := (blk_cell BK313.out 3).trans rfl; have hfz49_0 := blk_frozen BK313.out 0; have hfz49_1 := blk_frozen BK313.out 1; have hfz49_2 := blk_frozen BK313.out 2; have hfz49_3 := blk_frozen BK313.out 3)))
                 go_ret
                 exact ⟨by first | rfl | (simp [errW_none, errW_some] <;> rfl) | (simp [*, errW_none, errW_some] <;> rfl) | ((generalize ByteArray.toList _ = z_); cases z_ <;> first | rfl | (simp; done)), bl⟩
              ·rw [if_neg c23] at H
               exact absurd H (by simp)
             ·rw [if_neg c22] at H
              exact absurd H (by simp)
            ·rw [if_neg c21] at H
             have c21b0 : decide (x65_3 < (y300.length : Int)) = false := decide_eq_false c21
             clear c21
             obtain rfl := Option.some.inj H
             go_wp2
             repeat (go_quiet (fail); try go_wp2)
             go_ret
             exact ⟨by first | rfl | (simp [errW_none, errW_some] <;> rfl) | (simp [*, errW_none, errW_some] <;> rfl) | ((generalize ByteArray.toList _ = z_); cases z_ <;> first | rfl | (simp; done)), bl⟩
         ·rw [if_neg c17] at H
          exact absurd H (by simp)
        ·rw [if_neg c16] at H
         exact absurd H (by simp)
 ·replace c4 := Bool.eq_false_iff.mpr c4
  subst c4
  have H1 : (some false) = some r := by rw [if_neg (show ¬ (false = true) by decide)] at H; exact H
  clear H
  have H := H1
  clear H1
  obtain rfl := Option.some.inj H
  go_enter Tryd.func3, Tryd.ntmps3
  go_wp2_with (first | (go_at_call 8; (try (rename_i hK_; simp only [List.append] at hK_)); (with_reducible refine (targumlaw8_known.calls k  false _ ?side1 A3.out).mono ?_); (case side1 => exact Go.Proofs.YtbjlcipamdgnjaaDoor.Room.PowTab_below HG.out bl); rintro e w80 ⟨rfl, hb⟩; have n0_ := Aside0.mk (below_step bl hb); clear HB; have HB := n0_; clear n0_; (try clear hb); (try clear hb2); (try clear hk); (try clear hi)))
  repeat (go_quiet (first | (go_at_call 8; (try (rename_i hK_; simp only [List.append] at hK_)); (with_reducible refine (targumlaw8_known.calls k  false _ ?side1 A3.out).mono ?_); (case side1 => exact Go.Proofs.YtbjlcipamdgnjaaDoor.Room.PowTab_below HG.out bl); rintro e w80 ⟨rfl, hb⟩; have n0_ := Aside0.mk (below_step bl hb); clear HB; have HB := n0_; clear n0_; (try clear hb); (try clear hb2); (try clear hk); (try clear hi))); try go_wp2_with (first | (go_at_call 8; (try (rename_i hK_; simp only [List.append] at hK_)); (with_reducible refine (targumlaw8_known.calls k  false _ ?side1 A3.out).mono ?_); (case side1 => exact Go.Proofs.YtbjlcipamdgnjaaDoor.Room.PowTab_below HG.out bl); rintro e w80 ⟨rfl, hb⟩; have n0_ := Aside0.mk (below_step bl hb); clear HB; have HB := n0_; clear n0_; (try clear hb); (try clear hb2); (try clear hk); (try clear hi))))
  go_ret
  exact ⟨by first | rfl | (simp [errW_none, errW_some] <;> rfl) | (simp [*, errW_none, errW_some] <;> rfl) | ((generalize ByteArray.toList _ = z_); cases z_ <;> first | rfl | (simp; done)), bl⟩

/-- THE ONE PURE STATEMENT of targumlaw8_Num12Tells: yours. -/
def targumlaw8_Num12Tells.Pure : Prop := ∀ (a0 : ByteArray) (l1 : List Int), a0.size ≤ 140737488351232 → l1.length ≤ maxLen → l1.length * 1 ≤ 140737488351232 → (∀ x ∈ l1, (Lit.int .u8 x).wf = true) → ∃ k, targumlaw8_Num12Tells.f k a0 l1 = some true
theorem targumlaw8_Num12Tells.walk (P : targumlaw8_Num12Tells.Pure) (a0 : ByteArray) (a1 : Option Addr) (len1 cap1 : Nat) (z1 : List Int) (w : World) (w0 : a0.size ≤ 140737488351232) (w1 : (a1 = none ∧ len1 = 0 ∧ cap1 = 0 ∧ z1 = []) ∨ ∃ x, a1 = some x ∧ len1 ≤ cap1 ∧ cap1 ≤ maxLen ∧ z1.length = cap1 ∧ (∀ i, i < z1.length → w.cell? (x.add i) = some (.int .u8 (z1.getD i 0))) ∧ ∀ n ∈ z1, (Lit.int .u8 n).wf = true) (y1 : len1 * 1 ≤ 140737488351232) (hG : Go.Proofs.YtbjlcipamdgnjaaDoor.Room.PowTab w) :
  Calls Tryd.prog 3 #[.string a0, .slice a1 len1 cap1] w fun e w' => e = .returned (.bool true) ∧ Below w.heap.size w w' := by
 obtain ⟨l1, rfl, hr1, hm1, hw1, hc1⟩ := ReadsInt.ofRowC w1
 obtain ⟨k, h⟩ := P a0 l1 w0 hm1 y1 hw1
 refine (targumlaw8_Num12Tells.calls k a0 _ _ l1 true w (Kd.C_of_reads (d := (0 : Int)) (h1 := fun _ => rfl) hr1) hc1 hG h).mono ?_
 rintro e w' ⟨rfl, hd⟩
 exact ⟨rfl, hd⟩

/-! ### targumlaw8_digits: function 14 -/
def targumlaw8_digits.l0 : Nat → ByteArray → List Int → Int → Option (ByteArray)
 | 0, _, _, _ => none
 | k + 1, x0, x3, x4 => if x4 < (x0.size : Int) then (if 0 ≤ x4 then (if x4 < (x3.length : Int) then (targumlaw8_digits.l0 k x0 (x3.set (x4 : Int).toNat ((48 + (Int.tmod (bt x0 x4) 10)) % 256)) (wrap64 (x4 + 1))) else (none)) else (none)) else (some (strOfNums x3))
def targumlaw8_digits.f (k : Nat) (a0 : ByteArray) : Option (ByteArray) := if 0 ≤ (a0.size : Int) then (if ((a0.size : Int) : Int).toNat ≤ 281474976710656 then (targumlaw8_digits.l0 k a0 (List.replicate ((a0.size : Int) : Int).toNat 0) 0) else (none)) else (none)
theorem targumlaw8_digits.mono_l : ∀ k, (∀ y0 y1 y2, LeO (targumlaw8_digits.l0 k y0 y1 y2) (targumlaw8_digits.l0 (k + 1) y0 y1 y2))
 | 0 => fun _ _ _ r h => by simp [targumlaw8_digits.l0] at h
 | k + 1 => by
  have ih0 := targumlaw8_digits.mono_l k
  ·intro y0 y1 y2
   unfold targumlaw8_digits.l0
   repeat' first
   | (with_reducible exact ih0 _ _ _)
   | (with_reducible exact LeO.refl _)
   | (with_reducible exact LeO.none _)
   | (with_reducible refine LeO.ite ?_ ?_)
   | (with_reducible refine LeO.bind ?_ (fun _ => ?_))
   | exact ih0 _ _ _
   | exact LeO.none _
   | refine LeO.ite ?_ ?_
   | refine LeO.bind ?_ (fun _ => ?_)
theorem targumlaw8_digits.mono : ∀ a0 k, LeO (targumlaw8_digits.f k a0) (targumlaw8_digits.f (k + 1) a0) := by
 intro a0 k
 have ih0 := targumlaw8_digits.mono_l k
 unfold targumlaw8_digits.f
 repeat' first
   | (with_reducible exact ih0 _ _ _)
   | (with_reducible exact LeO.refl _)
   | (with_reducible exact LeO.none _)
   | (with_reducible refine LeO.ite ?_ ?_)
   | (with_reducible refine LeO.bind ?_ (fun _ => ?_))
   | exact ih0 _ _ _
   | exact LeO.none _
   | refine LeO.ite ?_ ?_
   | refine LeO.bind ?_ (fun _ => ?_)
set_option maxHeartbeats 8000000 in
set_option maxRecDepth 100000 in
theorem targumlaw8_digits.calls (k : Nat) (a0 : ByteArray) (r : ByteArray) (w : World) (h : targumlaw8_digits.f k a0 = some r) :
  Calls Tryd.prog 14 #[.string a0] w fun e w' => e = .returned (.string r) ∧ Below w.heap.size w w' := by
 have HB := Aside0.mk (Below.refl w.heap.size w)
 have H : (if 0 ≤ (a0.size : Int) then (if ((a0.size : Int) : Int).toNat ≤ 281474976710656 then (targumlaw8_digits.l0 k a0 (List.replicate ((a0.size : Int) : Int).toNat 0) 0) else (none)) else (none)) = some r := h
 clear h
 by_cases c2 : 0 ≤ (a0.size : Int)
 ·rw [if_pos c2] at H
  have c2b0 := eq_true c2
  have c2b1 : decide (0 ≤ (a0.size : Int)) = true := decide_eq_true c2
  clear c2
  by_cases c3 : ((a0.size : Int) : Int).toNat ≤ 281474976710656
  ·rw [if_pos c3] at H
   have c3b0 := eq_true c3
   have c3b1 : decide (((a0.size : Int) : Int).toNat ≤ 281474976710656) = true := decide_eq_true c3
   clear c3
   obtain ⟨y320, hy320⟩ : ∃ y_ : List Int, y_ = (List.replicate ((a0.size : Int) : Int).toNat 0) := ⟨_, rfl⟩
   replace H : (targumlaw8_digits.l0 k a0 y320 0) = some r := by first | (rw [hy320]; with_reducible exact H) | (have H2_ := (Option.bind_some _ _).symm.trans H; rw [hy320]; with_reducible exact H2_) | (have H2_ := (Option.bind_some _ _).symm.trans H; with_reducible exact H2_) | with_reducible exact H | (rw [hy320]; exact H) | exact H
   have Ny320 := Aside0.mk hy320
   clear hy320
   have H' := Aside0.mk H
   clear H
   go_enter Tryd.func14, Tryd.ntmps14
   go_wp2_with (first | ((with_reducible refine gate_dst (N := 7) rfl ?_); refine Kd.R_make (Kd.int .u8) _ 5 rfl (N := 7) rfl 22 _ _ rfl (a0.size : Int) rfl rfl Tryd.underlying22 (.int .u8 0) 1 info5 rfl (by decide) (by omega) 0 (ok := fun _ => True) (okp := fun _ => True) rfl (fun _ hk => hk) trivial (of_decide_eq_true (by first | (with_reducible assumption) | assumption)) (Nat.le_trans (Nat.mul_le_mul_right _ (of_decide_eq_true (by first | (with_reducible assumption) | assumption) : (a0.size : Int).toNat ≤ 281474976710656)) (by omega)) (Below.refl _ _) (Nat.le_refl _) ?_; intro v321 w4 ho5 hb hg_ hnew_; clear hg_ hnew_; (first | rw [← Ny320.out] at ho5 | (simp only [Int.reduceToNat] at ho5; rw [← Ny320.out] at ho5)); have n0_ := Aside0.mk (Kd.R_lower ho5 (below_size bl)); have n1_ := Aside0.mk (below_step bl hb); clear HB; have HO322 := n0_; have HB := n1_; clear n0_ n1_; clear hb ho5))
   go_loopg [4] k (fun kq v4 w' => ∃ (x3_1 : List Int) (x4_1 : Int), v4 = .int .i64 x4_1 ∧ Aside0 (targumlaw8_digits.l0 kq a0 x3_1 x4_1 = some r) ∧ Aside0 (kq ≤ k) ∧ Aside0 (Kd.R (Kd.int .u8) 5 w' w.heap.size (fun _ => True) v321 x3_1) ∧ Aside0 (Below w.heap.size w w'))
   case atStart => exact ⟨(y320), (0), (by first | rfl | (simp; done) | (simp [*]; done) | (simp [wrap64]; done)), H', ⟨Nat.le_refl _⟩, ⟨by (with_reducible repeat (first | apply Kd.R_alloc | apply Kd.R_drewN | apply Kd.R_drew)); exact HO322.out⟩, ⟨bl⟩⟩
   case round =>
    clear H'
    try clear c1; try clear c2; try clear c2b0; try clear c2b1; try clear p2; try clear c3; try clear c3b0; try clear c3b1
    obtain ⟨x3_1, x4_1, rfl, HA, HK1, HO_3, HB⟩ := hrel
    cases gk with
    | zero => exact absurd HA.out (by simp [targumlaw8_digits.l0])
    | succ k1 =>
     have H := HA.out
     clear HA
     simp only [targumlaw8_digits.l0] at H
     by_cases c6 : x4_1 < (a0.size : Int)
     ·rw [if_pos c6] at H
      have c6b0 : decide (x4_1 < (a0.size : Int)) = true := decide_eq_true c6
      clear c6
      by_cases c7 : 0 ≤ x4_1
      ·rw [if_pos c7] at H
       have c7b0 : decide (0 ≤ x4_1) = true := decide_eq_true c7
       clear c7
       by_cases c9 : x4_1 < (x3_1.length : Int)
       ·rw [if_pos c9] at H
        have c9b0 : decide (x4_1 < (x3_1.length : Int)) = true := decide_eq_true c9
        clear c9
        obtain ⟨y323, hy323⟩ : ∃ y_ : List Int, y_ = (x3_1.set (x4_1 : Int).toNat ((48 + (Int.tmod (bt a0 x4_1) 10)) % 256)) := ⟨_, rfl⟩
        replace H : (targumlaw8_digits.l0 k1 a0 y323 (wrap64 (x4_1 + 1))) = some r := by first | (rw [hy323]; with_reducible exact H) | (have H2_ := (Option.bind_some _ _).symm.trans H; rw [hy323]; with_reducible exact H2_) | (have H2_ := (Option.bind_some _ _).symm.trans H; with_reducible exact H2_) | with_reducible exact H | (rw [hy323]; exact H) | exact H
        have Ny323 := Aside0.mk hy323
        clear hy323
        have H' := Aside0.mk H
        clear H
        have p8 : 0 ≤ (x4_1 : Int) := of_decide_eq_true (by first | (with_reducible assumption) | assumption)
        have q8 : x4_1 < (a0.size : Int) := of_decide_eq_true (by first | (with_reducible assumption) | assumption)
        have hx8 := bt_at a0 x4_1
        replace p8 := eq_true p8
        replace q8 := eq_true q8
        have p10 : 0 ≤ (x4_1 : Int) := of_decide_eq_true (by first | (with_reducible assumption) | assumption)
        have q10 : (x4_1 : Int) < ((x3_1.length : Int) : Int) := of_decide_eq_true (by first | (with_reducible assumption) | assumption)
        obtain ⟨go10, co10, eo10, gb10, gl10, cl10, HG10⟩ := Kd.R_form HO_3.out (by omega)
        (first | cases eo10 | (injection eo10 with ea_ en_ ec_; (first | subst ea_ | (injection ea_ with ea_; subst ea_)); subst ec_; clear en_))
        have GB10 := Aside0.mk gb10
        have GG10 := Aside0.mk HG10
        clear gb10 gl10 HG10
        obtain ⟨hx10_0, hf10_0⟩ := Kd.R_celln 0 HO_3.out (x4_1 : Int) p10 q10
        replace p10 := eq_true p10
        replace q10 := eq_true q10
        have HP11 := Kd.R_putg HO_3.out (x4_1 : Int) ((48 + (Int.tmod (bt a0 x4_1) 10)) % 256)
        go_wp2_with (first | ((with_reducible refine gate_store (t := 5) (p := 21) rfl ?_); refine store_event (t := 5) (p := 21) (v := ?vo_w12) (w1 := (wr.setCell ⟨go10, (x4_1 : Int).toNat, none⟩ (.int .u8 ((48 + (Int.tmod (bt a0 x4_1) 10)) % 256)))) ?hg ?ho ?hn ?hr ?_; (case ho => rfl); (case hg => rfl); (case hn => rfl); (case hr => first | (go_simp; done) | (go_simp; rfl)); intro w12 hw; have hg : wr.grownBy w12 (some go10) := (by rw [hw]; exact HP11.2); have hp_ : Kd.R (Kd.int .u8) 5 w12 w.heap.size (fun _ => True) (.slice (some ⟨go10, 0, none⟩) x3_1.length co10) y323 := (by rw [hw, Ny323.out]; exact HP11.1); clear HP11; have n0_ := Aside0.mk (hp_); have n1_ := Aside0.mk ((by rw [hw]; exact below_set (HB.out) GB10.out : Below w.heap.size w w12)); clear HO_3; clear HB; have HO_3 := n0_; have HB := n1_; clear n0_ n1_; clear hg hw hp_))
        go_roundg k1
        case measure => have := HK1.out; omega
        case rel => exact ⟨(y323), (wrap64 (x4_1 + 1)), (by first | rfl | (simp; done) | (simp [*]; done) | (simp [wrap64]; done)), H', ⟨by have := HK1.out; omega⟩, ⟨by (with_reducible repeat (first | apply Kd.R_alloc | apply Kd.R_drewN | apply Kd.R_drew)); exact HO_3.out⟩, ⟨bl⟩⟩
       ·rw [if_neg c9] at H
        exact absurd H (by simp)
      ·rw [if_neg c7] at H
       exact absurd H (by simp)
     ·rw [if_neg c6] at H
      have c6b0 : decide (x4_1 < (a0.size : Int)) = false := decide_eq_false c6
      clear c6
      obtain rfl := Option.some.inj H
      have hcv13 := own_string (P := Tryd.prog) Tryd.underlying22 Tryd.underlying5 Tryd.underlying9 (Kd.own_of_R HO_3.out)
      go_wp2
      go_ret
      exact ⟨by first | rfl | (simp [errW_none, errW_some] <;> rfl) | (simp [*, errW_none, errW_some] <;> rfl) | ((generalize ByteArray.toList _ = z_); cases z_ <;> first | rfl | (simp; done)), bl⟩
  ·rw [if_neg c3] at H
   exact absurd H (by simp)
 ·rw [if_neg c2] at H
  exact absurd H (by simp)

/-! ### targumref4_Dec: function 38 -/
def targumref4_Dec.f (k : Nat) (a0_0 : Int) (a0_1 : Bool) (a0_2 : ByteArray) (a0_3 : ByteArray) : Option (Bool) := if a0_0 = 0 then (if a0_2.toList = ([48] : List UInt8) then (some (a0_3.toList == ([48] : List UInt8))) else ((targumref4_Digits.f k a0_2).bind fun t325 => (if t325 = true then (if 0 < (a0_2.size : Int) then (if (bt a0_2 0) = 48 then (some false) else (if 0 ≤ (wrap64 ((a0_2.size : Int) - 1)) then (if (wrap64 ((a0_2.size : Int) - 1)) < (a0_2.size : Int) then (if (bt a0_2 (wrap64 ((a0_2.size : Int) - 1))) = 48 then (some false) else ((targumref4_Good.f k a0_3).bind fun t326 => (some t326))) else (none)) else (none))) else (none)) else (some false)))) else (if a0_0 = 1 then (if a0_2.toList = ([] : List UInt8) then (some (a0_3.toList == ([] : List UInt8))) else (some false)) else (if a0_0 = 2 then (if a0_2.toList = ([] : List UInt8) then (if a0_3.toList = ([] : List UInt8) then (some (!a0_1)) else (some false)) else (some false)) else (some false)))
theorem targumref4_Dec.mono : ∀ a0 a1 a2 a3 k, LeO (targumref4_Dec.f k a0 a1 a2 a3) (targumref4_Dec.f (k + 1) a0 a1 a2 a3) := by
 intro a0 a1 a2 a3 k
 unfold targumref4_Dec.f
 repeat' first
   | (with_reducible exact targumref4_Digits.mono _ _)
   | (with_reducible exact targumref4_Good.mono _ _)
   | (with_reducible exact LeO.refl _)
   | (with_reducible exact LeO.none _)
   | (with_reducible refine LeO.ite ?_ ?_)
   | (with_reducible refine LeO.bind ?_ (fun _ => ?_))
   | exact targumref4_Digits.mono _ _
   | exact targumref4_Good.mono _ _
   | exact LeO.none _
   | refine LeO.ite ?_ ?_
   | refine LeO.bind ?_ (fun _ => ?_)
set_option maxHeartbeats 8000000 in
set_option maxRecDepth 100000 in
theorem targumref4_Dec.calls (k : Nat) (a0_0 : Int) (a0_1 : Bool) (a0_2 : ByteArray) (a0_3 : ByteArray) (r : Bool) (w : World) (h : targumref4_Dec.f k a0_0 a0_1 a0_2 a0_3 = some r) :
  Calls Tryd.prog 38 #[.agg #[.int .i64 a0_0, .bool a0_1, .string a0_2, .string a0_3]] w fun e w' => e = .returned (.bool r) ∧ Below w.heap.size w w' := by
 have hu28 := Tryd.underlying28
 have HB := Aside0.mk (Below.refl w.heap.size w)
 have H : (if a0_0 = 0 then (if a0_2.toList = ([48] : List UInt8) then (some (a0_3.toList == ([48] : List UInt8))) else ((targumref4_Digits.f k a0_2).bind fun t325 => (if t325 = true then (if 0 < (a0_2.size : Int) then (if (bt a0_2 0) = 48 then (some false) else (if 0 ≤ (wrap64 ((a0_2.size : Int) - 1)) then (if (wrap64 ((a0_2.size : Int) - 1)) < (a0_2.size : Int) then (if (bt a0_2 (wrap64 ((a0_2.size : Int) - 1))) = 48 then (some false) else ((targumref4_Good.f k a0_3).bind fun t326 => (some t326))) else (none)) else (none))) else (none)) else (some false)))) else (if a0_0 = 1 then (if a0_2.toList = ([] : List UInt8) then (some (a0_3.toList == ([] : List UInt8))) else (some false)) else (if a0_0 = 2 then (if a0_2.toList = ([] : List UInt8) then (if a0_3.toList = ([] : List UInt8) then (some (!a0_1)) else (some false)) else (some false)) else (some false)))) = some r := h
 clear h
 by_cases c2 : a0_0 = 0
 ·rw [if_pos c2] at H
  have c2b0 : (a0_0 == 0) = true := beq_iff_eq.mpr c2
  have c2b1 : (a0_0 != 0) = false := bne_eq_false_iff_eq.mpr c2
  clear c2
  by_cases c3 : a0_2.toList = ([48] : List UInt8)
  ·rw [if_pos c3] at H
   have c3b0 : (a0_2.toList == ([48] : List UInt8)) = true := beq_iff_eq.mpr c3
   have c3b1 : (a0_2.toList != ([48] : List UInt8)) = false := bne_eq_false_iff_eq.mpr c3
   clear c3
   obtain rfl := Option.some.inj H
   go_enter Tryd.func38, Tryd.ntmps38
   go_wp2_with (first | ((with_reducible refine gate_dst (N := 1) rfl ?_); (try (refine gate_guard (by rfl) ?_; dsimp only)); refine box_event ?hg (N := 1) ?hd (cs := #[.int .i64 a0_0, .bool a0_1, .string a0_2, .string a0_3]) (t := 28) ?hr ?_; (case hd => rfl); (case hg => rfl); (case hr => first | (go_simp; done) | (go_simp; rfl)); intro gb324 hg w4 hbox hb; have n0_ := Aside0.mk (below_step bl hb); have n1_ := Aside0.mk (hbox); have n2_ := Aside0.mk ((by rw [hg]; exact (below_size bl) : w.heap.size ≤ gb324)); have n3_ := Aside0.mk ((by rw [hg]; exact (below_size bl) : w.heap.size ≤ gb324)); clear HB; have HB := n0_; have BK324 := n1_; have GW324 := n2_; have GE324 := n3_; clear n0_ n1_ n2_ n3_; clear hb hbox hg; have hcz5_0 : w4.cell? ⟨gb324, 0, none⟩ = some (.int .i64 a0_0) := (blk_cell BK324.out 0).trans rfl; have hcz5_1 : w4.cell? ⟨gb324, 1, none⟩ = some (.bool a0_1) := (blk_cell BK324.out 1).trans rfl; have hcz5_2 : w4.cell? ⟨gb324, 2, none⟩ = some (.string a0_2) := (blk_cell BK324.out 2).trans rfl; have hcz5_3 : w4.cell? ⟨gb324, 3, none⟩ = some (.string a0_3) := (blk_cell BK324.out 3).trans rfl; have hfz5_0 := blk_frozen BK324.out 0; have hfz5_1 := blk_frozen BK324.out 1; have hfz5_2 := blk_frozen BK324.out 2; have hfz5_3 := blk_frozen BK324.out 3))
   go_ret
   exact ⟨by first | rfl | (simp [errW_none, errW_some] <;> rfl) | (simp [*, errW_none, errW_some] <;> rfl) | ((generalize ByteArray.toList _ = z_); cases z_ <;> first | rfl | (simp; done)), bl⟩
  ·rw [if_neg c3] at H
   have c3b0 : (a0_2.toList == ([48] : List UInt8)) = false := beq_eq_false_iff_ne.mpr c3
   have c3b1 : (a0_2.toList != ([48] : List UInt8)) = true := bne_iff_ne.mpr c3
   replace H := Option.bind_eq_some_iff.mp H
   obtain ⟨t325, A60, H⟩ := H
   replace H : (if t325 = true then (if 0 < (a0_2.size : Int) then (if (bt a0_2 0) = 48 then (some false) else (if 0 ≤ (wrap64 ((a0_2.size : Int) - 1)) then (if (wrap64 ((a0_2.size : Int) - 1)) < (a0_2.size : Int) then (if (bt a0_2 (wrap64 ((a0_2.size : Int) - 1))) = 48 then (some false) else ((targumref4_Good.f k a0_3).bind fun t326 => (some t326))) else (none)) else (none))) else (none)) else (some false)) = some r := H
   have A6 := Aside0.mk A60
   clear A60
   by_cases c7 : t325 = true
   ·subst c7
    have H1 : (if 0 < (a0_2.size : Int) then (if (bt a0_2 0) = 48 then (some false) else (if 0 ≤ (wrap64 ((a0_2.size : Int) - 1)) then (if (wrap64 ((a0_2.size : Int) - 1)) < (a0_2.size : Int) then (if (bt a0_2 (wrap64 ((a0_2.size : Int) - 1))) = 48 then (some false) else ((targumref4_Good.f k a0_3).bind fun t326 => (some t326))) else (none)) else (none))) else (none)) = some r := by rw [if_pos rfl] at H; exact H
    clear H
    have H := H1
    clear H1
    by_cases c8 : 0 < (a0_2.size : Int)
    ·rw [if_pos c8] at H
     have c8b0 : decide (0 < (a0_2.size : Int)) = true := decide_eq_true c8
     have c8b1 : decide (0 < a0_2.size) = true := decide_eq_true (by omega)
     clear c8
     by_cases c10 : (bt a0_2 0) = 48
     ·rw [if_pos c10] at H
      have c10b0 : ((bt a0_2 0) == 48) = true := beq_iff_eq.mpr c10
      have c10b1 : ((bt a0_2 0) != 48) = false := bne_eq_false_iff_eq.mpr c10
      clear c10
      obtain rfl := Option.some.inj H
      go_enter Tryd.func38, Tryd.ntmps38
      go_wp2_with (first | ((with_reducible refine gate_dst (N := 1) rfl ?_); (try (refine gate_guard (by rfl) ?_; dsimp only)); refine box_event ?hg (N := 1) ?hd (cs := #[.int .i64 a0_0, .bool a0_1, .string a0_2, .string a0_3]) (t := 28) ?hr ?_; (case hd => rfl); (case hg => rfl); (case hr => first | (go_simp; done) | (go_simp; rfl)); intro gb324 hg w11 hbox hb; have n0_ := Aside0.mk (below_step bl hb); have n1_ := Aside0.mk (hbox); have n2_ := Aside0.mk ((by rw [hg]; exact (below_size bl) : w.heap.size ≤ gb324)); have n3_ := Aside0.mk ((by rw [hg]; exact (below_size bl) : w.heap.size ≤ gb324)); clear HB; have HB := n0_; have BK324 := n1_; have GW324 := n2_; have GE324 := n3_; clear n0_ n1_ n2_ n3_; clear hb hbox hg; have hcz12_0 : w11.cell? ⟨gb324, 0, none⟩ = some (.int .i64 a0_0) := (blk_cell BK324.out 0).trans rfl; have hcz12_1 : w11.cell? ⟨gb324, 1, none⟩ = some (.bool a0_1) := (blk_cell BK324.out 1).trans rfl; have hcz12_2 : w11.cell? ⟨gb324, 2, none⟩ = some (.string a0_2) := (blk_cell BK324.out 2).trans rfl; have hcz12_3 : w11.cell? ⟨gb324, 3, none⟩ = some (.string a0_3) := (blk_cell BK324.out 3).trans rfl; have hfz12_0 := blk_frozen BK324.out 0; have hfz12_1 := blk_frozen BK324.out 1; have hfz12_2 := blk_frozen BK324.out 2; have hfz12_3 := blk_frozen BK324.out 3) | ((with_reducible refine gate_callee (f := 33) rfl ?_); refine goesL_ (some 15) rfl rfl Tryd.func33 (by kernel_rfl) rfl #[.string a0_2] rfl (by (try simp only [List.map_toArray, List.map_cons, List.map_nil]); first | done | rfl | (simp only [List.length_drop, List.length_take]; rfl)) ?_; (with_reducible refine (targumref4_Digits.calls k a0_2 true _ A6.out).mono ?_); rintro e w' ⟨rfl, ⟨nd, rfl⟩⟩; refine ⟨_, rfl, ?_⟩; have p9 : 0 ≤ (0 : Int) := (by omega); have q9 : 0 < a0_2.size := (by have : (0 : Int) < (a0_2.size : Int) := of_decide_eq_true (by first | (with_reducible assumption) | assumption); omega); have hx9 : ∀ h : 0 < a0_2.size, ((a0_2[0]'h).toNat : Int) = bt a0_2 0 := bt_at a0_2 0; clear p9; have qi9 : (0 < (a0_2.size : Int)) = True := eq_true (of_decide_eq_true (by first | (with_reducible assumption) | assumption)); replace q9 := eq_true q9))
      go_ret
      exact ⟨by first | rfl | (simp [errW_none, errW_some] <;> rfl) | (simp [*, errW_none, errW_some] <;> rfl) | ((generalize ByteArray.toList _ = z_); cases z_ <;> first | rfl | (simp; done)), bl⟩
     ·rw [if_neg c10] at H
      have c10b0 : ((bt a0_2 0) == 48) = false := beq_eq_false_iff_ne.mpr c10
      have c10b1 : ((bt a0_2 0) != 48) = true := bne_iff_ne.mpr c10
      obtain ⟨ji13, hji13⟩ : ∃ j_ : Int, (wrap64 ((a0_2.size : Int) - 1)) = j_ := ⟨_, rfl⟩
      replace H : (if 0 ≤ (ji13) then (if (ji13) < (a0_2.size : Int) then (if (bt a0_2 (ji13)) = 48 then (some false) else ((targumref4_Good.f k a0_3).bind fun t326 => (some t326))) else (none)) else (none)) = some r := by first | (rw [hji13] at H; exact H) | (simp only [hji13] at H ⊢; exact H)
      (try rw [hji13] at A6)
      have hji13w : (IntKind.i64.wrap ((a0_2.size : Int) - 1)) = ji13 := (i64_w _).trans hji13
      by_cases c14 : 0 ≤ (ji13)
      ·rw [if_pos c14] at H
       have c14b0 : decide (0 ≤ (ji13)) = true := decide_eq_true c14
       clear c14
       by_cases c15 : (ji13) < (a0_2.size : Int)
       ·rw [if_pos c15] at H
        have c15b0 : decide ((ji13) < (a0_2.size : Int)) = true := decide_eq_true c15
        clear c15
        refine Classical.byCases (p := ((bt a0_2 (ji13)) = 48)) (fun c17 => ?x5) (fun c17 => ?y5)
        case' x5 =>
         rw [if_pos c17] at H
         have c17b0 : ((bt a0_2 (ji13)) == 48) = true := beq_iff_eq.mpr c17
         have c17b1 : ((bt a0_2 (ji13)) != 48) = false := bne_eq_false_iff_eq.mpr c17
         clear c17
         obtain rfl := Option.some.inj H
         go_enter Tryd.func38, Tryd.ntmps38
         skip
        case' y5 =>
         rw [if_neg c17] at H
         have c17b0 : ((bt a0_2 (ji13)) == 48) = false := beq_eq_false_iff_ne.mpr c17
         have c17b1 : ((bt a0_2 (ji13)) != 48) = true := bne_iff_ne.mpr c17
         replace H := Option.bind_eq_some_iff.mp H
         obtain ⟨t326, A200, H⟩ := H
         replace H : (some t326) = some r := H
         have A20 := Aside0.mk A200
         clear A200
         obtain rfl := Option.some.inj H
         go_enter Tryd.func38, Tryd.ntmps38
         skip
        case x5 | y5 =>
         as_aux_lemma =>
          go_wp2_with (first | ((with_reducible refine gate_dst (N := 1) rfl ?_); (try (refine gate_guard (by rfl) ?_; dsimp only)); refine box_event ?hg (N := 1) ?hd (cs := #[.int .i64 a0_0, .bool a0_1, .string a0_2, .string a0_3]) (t := 28) ?hr ?_; (case hd => rfl); (case hg => rfl); (case hr => first | (go_simp; done) | (go_simp; rfl)); intro gb324 hg w21 hbox hb; have n0_ := Aside0.mk (below_step bl hb); have n1_ := Aside0.mk (hbox); have n2_ := Aside0.mk ((by rw [hg]; exact (below_size bl) : w.heap.size ≤ gb324)); have n3_ := Aside0.mk ((by rw [hg]; exact (below_size bl) : w.heap.size ≤ gb324)); clear HB; have HB := n0_; have BK324 := n1_; have GW324 := n2_; have GE324 := n3_; clear n0_ n1_ n2_ n3_; clear hb hbox hg; have hcz22_0 : w21.cell? ⟨gb324, 0, none⟩ = some (.int .i64 a0_0) := (blk_cell BK324.out 0).trans rfl; have hcz22_1 : w21.cell? ⟨gb324, 1, none⟩ = some (.bool a0_1) := (blk_cell BK324.out 1).trans rfl; have hcz22_2 : w21.cell? ⟨gb324, 2, none⟩ = some (.string a0_2) := (blk_cell BK324.out 2).trans rfl; have hcz22_3 : w21.cell? ⟨gb324, 3, none⟩ = some (.string a0_3) := (blk_cell BK324.out 3).trans rfl; have hfz22_0 := blk_frozen BK324.out 0; have hfz22_1 := blk_frozen BK324.out 1; have hfz22_2 := blk_frozen BK324.out 2; have hfz22_3 := blk_frozen BK324.out 3) | ((with_reducible refine gate_callee (f := 33) rfl ?_); refine goesL_ (some 15) rfl rfl Tryd.func33 (by kernel_rfl) rfl #[.string a0_2] rfl (by (try simp only [List.map_toArray, List.map_cons, List.map_nil]); first | done | rfl | (simp only [List.length_drop, List.length_take]; rfl)) ?_; (with_reducible refine (targumref4_Digits.calls _ _ _ _ A6.out).mono ?_); rintro e w' ⟨rfl, ⟨nd, rfl⟩⟩; refine ⟨_, rfl, ?_⟩; have p9 : 0 ≤ (0 : Int) := (by omega); have q9 : 0 < a0_2.size := (by have : (0 : Int) < (a0_2.size : Int) := of_decide_eq_true (by first | (with_reducible assumption) | assumption); omega); have hx9 : ∀ h : 0 < a0_2.size, ((a0_2[0]'h).toNat : Int) = bt a0_2 0 := bt_at a0_2 0; clear p9; have qi9 : (0 < (a0_2.size : Int)) = True := eq_true (of_decide_eq_true (by first | (with_reducible assumption) | assumption)); replace q9 := eq_true q9; have p16 : 0 ≤ ((ji13) : Int) := of_decide_eq_true (by first | (with_reducible assumption) | assumption); have q16 : (ji13) < (a0_2.size : Int) := of_decide_eq_true (by first | (with_reducible assumption) | assumption); have hx16 := bt_at a0_2 (ji13); replace p16 := eq_true p16; replace q16 := eq_true q16) | (go_at_call 34; (try (rename_i hK_; simp only [List.append] at hK_)); (with_reducible refine (targumref4_Good.calls _ _ _ _ A20.out).mono ?_); rintro e w' ⟨rfl, ⟨nd, rfl⟩⟩))
          go_ret
          exact ⟨by first | rfl | (simp [errW_none, errW_some] <;> rfl) | (simp only [← hji13]; first | rfl | (simp [errW_none, errW_some] <;> rfl)) | (simp [*, errW_none, errW_some] <;> rfl), bl⟩
       ·rw [if_neg c15] at H
        exact absurd H (by simp)
      ·rw [if_neg c14] at H
       exact absurd H (by simp)
    ·rw [if_neg c8] at H
     exact absurd H (by simp)
   ·replace c7 := Bool.eq_false_iff.mpr c7
    subst c7
    have H1 : (some false) = some r := by rw [if_neg (show ¬ (false = true) by decide)] at H; exact H
    clear H
    have H := H1
    clear H1
    obtain rfl := Option.some.inj H
    go_enter Tryd.func38, Tryd.ntmps38
    go_wp2_with (first | ((with_reducible refine gate_dst (N := 1) rfl ?_); (try (refine gate_guard (by rfl) ?_; dsimp only)); refine box_event ?hg (N := 1) ?hd (cs := #[.int .i64 a0_0, .bool a0_1, .string a0_2, .string a0_3]) (t := 28) ?hr ?_; (case hd => rfl); (case hg => rfl); (case hr => first | (go_simp; done) | (go_simp; rfl)); intro gb324 hg w23 hbox hb; have n0_ := Aside0.mk (below_step bl hb); have n1_ := Aside0.mk (hbox); have n2_ := Aside0.mk ((by rw [hg]; exact (below_size bl) : w.heap.size ≤ gb324)); have n3_ := Aside0.mk ((by rw [hg]; exact (below_size bl) : w.heap.size ≤ gb324)); clear HB; have HB := n0_; have BK324 := n1_; have GW324 := n2_; have GE324 := n3_; clear n0_ n1_ n2_ n3_; clear hb hbox hg; have hcz24_0 : w23.cell? ⟨gb324, 0, none⟩ = some (.int .i64 a0_0) := (blk_cell BK324.out 0).trans rfl; have hcz24_1 : w23.cell? ⟨gb324, 1, none⟩ = some (.bool a0_1) := (blk_cell BK324.out 1).trans rfl; have hcz24_2 : w23.cell? ⟨gb324, 2, none⟩ = some (.string a0_2) := (blk_cell BK324.out 2).trans rfl; have hcz24_3 : w23.cell? ⟨gb324, 3, none⟩ = some (.string a0_3) := (blk_cell BK324.out 3).trans rfl; have hfz24_0 := blk_frozen BK324.out 0; have hfz24_1 := blk_frozen BK324.out 1; have hfz24_2 := blk_frozen BK324.out 2; have hfz24_3 := blk_frozen BK324.out 3) | ((with_reducible refine gate_callee (f := 33) rfl ?_); refine goesL_ (some 15) rfl rfl Tryd.func33 (by kernel_rfl) rfl #[.string a0_2] rfl (by (try simp only [List.map_toArray, List.map_cons, List.map_nil]); first | done | rfl | (simp only [List.length_drop, List.length_take]; rfl)) ?_; (with_reducible refine (targumref4_Digits.calls k a0_2 false _ A6.out).mono ?_); rintro e w' ⟨rfl, ⟨nd, rfl⟩⟩; refine ⟨_, rfl, ?_⟩))
    go_ret
    exact ⟨by first | rfl | (simp [errW_none, errW_some] <;> rfl) | (simp [*, errW_none, errW_some] <;> rfl) | ((generalize ByteArray.toList _ = z_); cases z_ <;> first | rfl | (simp; done)), bl⟩
 ·rw [if_neg c2] at H
  have c2b0 : (a0_0 == 0) = false := beq_eq_false_iff_ne.mpr c2
  have c2b1 : (a0_0 != 0) = true := bne_iff_ne.mpr c2
  by_cases c25 : a0_0 = 1
  ·rw [if_pos c25] at H
   have c25b0 : (a0_0 == 1) = true := beq_iff_eq.mpr c25
   have c25b1 : (a0_0 != 1) = false := bne_eq_false_iff_eq.mpr c25
   clear c25
   by_cases c26 : a0_2.toList = ([] : List UInt8)
   ·rw [if_pos c26] at H
    have c26b0 : (a0_2.toList == ([] : List UInt8)) = true := beq_iff_eq.mpr c26
    have c26b1 : (a0_2.toList != ([] : List UInt8)) = false := bne_eq_false_iff_eq.mpr c26
    clear c26
    obtain rfl := Option.some.inj H
    go_enter Tryd.func38, Tryd.ntmps38
    go_wp2_with (first | ((with_reducible refine gate_dst (N := 1) rfl ?_); (try (refine gate_guard (by rfl) ?_; dsimp only)); refine box_event ?hg (N := 1) ?hd (cs := #[.int .i64 a0_0, .bool a0_1, .string a0_2, .string a0_3]) (t := 28) ?hr ?_; (case hd => rfl); (case hg => rfl); (case hr => first | (go_simp; done) | (go_simp; rfl)); intro gb324 hg w27 hbox hb; have n0_ := Aside0.mk (below_step bl hb); have n1_ := Aside0.mk (hbox); have n2_ := Aside0.mk ((by rw [hg]; exact (below_size bl) : w.heap.size ≤ gb324)); have n3_ := Aside0.mk ((by rw [hg]; exact (below_size bl) : w.heap.size ≤ gb324)); clear HB; have HB := n0_; have BK324 := n1_; have GW324 := n2_; have GE324 := n3_; clear n0_ n1_ n2_ n3_; clear hb hbox hg; have hcz28_0 : w27.cell? ⟨gb324, 0, none⟩ = some (.int .i64 a0_0) := (blk_cell BK324.out 0).trans rfl; have hcz28_1 : w27.cell? ⟨gb324, 1, none⟩ = some (.bool a0_1) := (blk_cell BK324.out 1).trans rfl; have hcz28_2 : w27.cell? ⟨gb324, 2, none⟩ = some (.string a0_2) := (blk_cell BK324.out 2).trans rfl; have hcz28_3 : w27.cell? ⟨gb324, 3, none⟩ = some (.string a0_3) := (blk_cell BK324.out 3).trans rfl; have hfz28_0 := blk_frozen BK324.out 0; have hfz28_1 := blk_frozen BK324.out 1; have hfz28_2 := blk_frozen BK324.out 2; have hfz28_3 := blk_frozen BK324.out 3))
    go_ret
    exact ⟨by first | rfl | (simp [errW_none, errW_some] <;> rfl) | (simp [*, errW_none, errW_some] <;> rfl) | ((generalize ByteArray.toList _ = z_); cases z_ <;> first | rfl | (simp; done)), bl⟩
   ·rw [if_neg c26] at H
    have c26b0 : (a0_2.toList == ([] : List UInt8)) = false := beq_eq_false_iff_ne.mpr c26
    have c26b1 : (a0_2.toList != ([] : List UInt8)) = true := bne_iff_ne.mpr c26
    obtain rfl := Option.some.inj H
    go_enter Tryd.func38, Tryd.ntmps38
    go_wp2_with (first | ((with_reducible refine gate_dst (N := 1) rfl ?_); (try (refine gate_guard (by rfl) ?_; dsimp only)); refine box_event ?hg (N := 1) ?hd (cs := #[.int .i64 a0_0, .bool a0_1, .string a0_2, .string a0_3]) (t := 28) ?hr ?_; (case hd => rfl); (case hg => rfl); (case hr => first | (go_simp; done) | (go_simp; rfl)); intro gb324 hg w29 hbox hb; have n0_ := Aside0.mk (below_step bl hb); have n1_ := Aside0.mk (hbox); have n2_ := Aside0.mk ((by rw [hg]; exact (below_size bl) : w.heap.size ≤ gb324)); have n3_ := Aside0.mk ((by rw [hg]; exact (below_size bl) : w.heap.size ≤ gb324)); clear HB; have HB := n0_; have BK324 := n1_; have GW324 := n2_; have GE324 := n3_; clear n0_ n1_ n2_ n3_; clear hb hbox hg; have hcz30_0 : w29.cell? ⟨gb324, 0, none⟩ = some (.int .i64 a0_0) := (blk_cell BK324.out 0).trans rfl; have hcz30_1 : w29.cell? ⟨gb324, 1, none⟩ = some (.bool a0_1) := (blk_cell BK324.out 1).trans rfl; have hcz30_2 : w29.cell? ⟨gb324, 2, none⟩ = some (.string a0_2) := (blk_cell BK324.out 2).trans rfl; have hcz30_3 : w29.cell? ⟨gb324, 3, none⟩ = some (.string a0_3) := (blk_cell BK324.out 3).trans rfl; have hfz30_0 := blk_frozen BK324.out 0; have hfz30_1 := blk_frozen BK324.out 1; have hfz30_2 := blk_frozen BK324.out 2; have hfz30_3 := blk_frozen BK324.out 3))
    go_ret
    exact ⟨by first | rfl | (simp [errW_none, errW_some] <;> rfl) | (simp [*, errW_none, errW_some] <;> rfl) | ((generalize ByteArray.toList _ = z_); cases z_ <;> first | rfl | (simp; done)), bl⟩
  ·rw [if_neg c25] at H
   have c25b0 : (a0_0 == 1) = false := beq_eq_false_iff_ne.mpr c25
   have c25b1 : (a0_0 != 1) = true := bne_iff_ne.mpr c25
   by_cases c31 : a0_0 = 2
   ·rw [if_pos c31] at H
    have c31b0 : (a0_0 == 2) = true := beq_iff_eq.mpr c31
    have c31b1 : (a0_0 != 2) = false := bne_eq_false_iff_eq.mpr c31
    clear c31
    by_cases c32 : a0_2.toList = ([] : List UInt8)
    ·rw [if_pos c32] at H
     have c32b0 : (a0_2.toList == ([] : List UInt8)) = true := beq_iff_eq.mpr c32
     have c32b1 : (a0_2.toList != ([] : List UInt8)) = false := bne_eq_false_iff_eq.mpr c32
     clear c32
     by_cases c33 : a0_3.toList = ([] : List UInt8)
     ·rw [if_pos c33] at H
      have c33b0 : (a0_3.toList == ([] : List UInt8)) = true := beq_iff_eq.mpr c33
      have c33b1 : (a0_3.toList != ([] : List UInt8)) = false := bne_eq_false_iff_eq.mpr c33
      clear c33
      obtain rfl := Option.some.inj H
      go_enter Tryd.func38, Tryd.ntmps38
      go_wp2_with (first | ((with_reducible refine gate_dst (N := 1) rfl ?_); (try (refine gate_guard (by rfl) ?_; dsimp only)); refine box_event ?hg (N := 1) ?hd (cs := #[.int .i64 a0_0, .bool a0_1, .string a0_2, .string a0_3]) (t := 28) ?hr ?_; (case hd => rfl); (case hg => rfl); (case hr => first | (go_simp; done) | (go_simp; rfl)); intro gb324 hg w34 hbox hb; have n0_ := Aside0.mk (below_step bl hb); have n1_ := Aside0.mk (hbox); have n2_ := Aside0.mk ((by rw [hg]; exact (below_size bl) : w.heap.size ≤ gb324)); have n3_ := Aside0.mk ((by rw [hg]; exact (below_size bl) : w.heap.size ≤ gb324)); clear HB; have HB := n0_; have BK324 := n1_; have GW324 := n2_; have GE324 := n3_; clear n0_ n1_ n2_ n3_; clear hb hbox hg; have hcz35_0 : w34.cell? ⟨gb324, 0, none⟩ = some (.int .i64 a0_0) := (blk_cell BK324.out 0).trans rfl; have hcz35_1 : w34.cell? ⟨gb324, 1, none⟩ = some (.bool a0_1) := (blk_cell BK324.out 1).trans rfl; have hcz35_2 : w34.cell? ⟨gb324, 2, none⟩ = some (.string a0_2) := (blk_cell BK324.out 2).trans rfl; have hcz35_3 : w34.cell? ⟨gb324, 3, none⟩ = some (.string a0_3) := (blk_cell BK324.out 3).trans rfl; have hfz35_0 := blk_frozen BK324.out 0; have hfz35_1 := blk_frozen BK324.out 1; have hfz35_2 := blk_frozen BK324.out 2; have hfz35_3 := blk_frozen BK324.out 3))
      go_ret
      exact ⟨by first | rfl | (simp [errW_none, errW_some] <;> rfl) | (simp [*, errW_none, errW_some] <;> rfl) | ((generalize ByteArray.toList _ = z_); cases z_ <;> first | rfl | (simp; done)), bl⟩
     ·rw [if_neg c33] at H
      have c33b0 : (a0_3.toList == ([] : List UInt8)) = false := beq_eq_false_iff_ne.mpr c33
      have c33b1 : (a0_3.toList != ([] : List UInt8)) = true := bne_iff_ne.mpr c33
      obtain rfl := Option.some.inj H
      go_enter Tryd.func38, Tryd.ntmps38
      go_wp2_with (first | ((with_reducible refine gate_dst (N := 1) rfl ?_); (try (refine gate_guard (by rfl) ?_; dsimp only)); refine box_event ?hg (N := 1) ?hd (cs := #[.int .i64 a0_0, .bool a0_1, .string a0_2, .string a0_3]) (t := 28) ?hr ?_; (case hd => rfl); (case hg => rfl); (case hr => first | (go_simp; done) | (go_simp; rfl)); intro gb324 hg w36 hbox hb; have n0_ := Aside0.mk (below_step bl hb); have n1_ := Aside0.mk (hbox); have n2_ := Aside0.mk ((by rw [hg]; exact (below_size bl) : w.heap.size ≤ gb324)); have n3_ := Aside0.mk ((by rw [hg]; exact (below_size bl) : w.heap.size ≤ gb324)); clear HB; have HB := n0_; have BK324 := n1_; have GW324 := n2_; have GE324 := n3_; clear n0_ n1_ n2_ n3_; clear hb hbox hg; have hcz37_0 : w36.cell? ⟨gb324, 0, none⟩ = some (.int .i64 a0_0) := (blk_cell BK324.out 0).trans rfl; have hcz37_1 : w36.cell? ⟨gb324, 1, none⟩ = some (.bool a0_1) := (blk_cell BK324.out 1).trans rfl; have hcz37_2 : w36.cell? ⟨gb324, 2, none⟩ = some (.string a0_2) := (blk_cell BK324.out 2).trans rfl; have hcz37_3 : w36.cell? ⟨gb324, 3, none⟩ = some (.string a0_3) := (blk_cell BK324.out 3).trans rfl; have hfz37_0 := blk_frozen BK324.out 0; have hfz37_1 := blk_frozen BK324.out 1; have hfz37_2 := blk_frozen BK324.out 2; have hfz37_3 := blk_frozen BK324.out 3))
      go_ret
      exact ⟨by first | rfl | (simp [errW_none, errW_some] <;> rfl) | (simp [*, errW_none, errW_some] <;> rfl) | ((generalize ByteArray.toList _ = z_); cases z_ <;> first | rfl | (simp; done)), bl⟩
    ·rw [if_neg c32] at H
     have c32b0 : (a0_2.toList == ([] : List UInt8)) = false := beq_eq_false_iff_ne.mpr c32
     have c32b1 : (a0_2.toList != ([] : List UInt8)) = true := bne_iff_ne.mpr c32
     obtain rfl := Option.some.inj H
     go_enter Tryd.func38, Tryd.ntmps38
     go_wp2_with (first | ((with_reducible refine gate_dst (N := 1) rfl ?_); (try (refine gate_guard (by rfl) ?_; dsimp only)); refine box_event ?hg (N := 1) ?hd (cs := #[.int .i64 a0_0, .bool a0_1, .string a0_2, .string a0_3]) (t := 28) ?hr ?_; (case hd => rfl); (case hg => rfl); (case hr => first | (go_simp; done) | (go_simp; rfl)); intro gb324 hg w38 hbox hb; have n0_ := Aside0.mk (below_step bl hb); have n1_ := Aside0.mk (hbox); have n2_ := Aside0.mk ((by rw [hg]; exact (below_size bl) : w.heap.size ≤ gb324)); have n3_ := Aside0.mk ((by rw [hg]; exact (below_size bl) : w.heap.size ≤ gb324)); clear HB; have HB := n0_; have BK324 := n1_; have GW324 := n2_; have GE324 := n3_; clear n0_ n1_ n2_ n3_; clear hb hbox hg; have hcz39_0 : w38.cell? ⟨gb324, 0, none⟩ = some (.int .i64 a0_0) := (blk_cell BK324.out 0).trans rfl; have hcz39_1 : w38.cell? ⟨gb324, 1, none⟩ = some (.bool a0_1) := (blk_cell BK324.out 1).trans rfl; have hcz39_2 : w38.cell? ⟨gb324, 2, none⟩ = some (.string a0_2) := (blk_cell BK324.out 2).trans rfl; have hcz39_3 : w38.cell? ⟨gb324, 3, none⟩ = some (.string a0_3) := (blk_cell BK324.out 3).trans rfl; have hfz39_0 := blk_frozen BK324.out 0; have hfz39_1 := blk_frozen BK324.out 1; have hfz39_2 := blk_frozen BK324.out 2; have hfz39_3 := blk_frozen BK324.out 3))
     go_ret
     exact ⟨by first | rfl | (simp [errW_none, errW_some] <;> rfl) | (simp [*, errW_none, errW_some] <;> rfl) | ((generalize ByteArray.toList _ = z_); cases z_ <;> first | rfl | (simp; done)), bl⟩
   ·rw [if_neg c31] at H
    have c31b0 : (a0_0 == 2) = false := beq_eq_false_iff_ne.mpr c31
    have c31b1 : (a0_0 != 2) = true := bne_iff_ne.mpr c31
    obtain rfl := Option.some.inj H
    go_enter Tryd.func38, Tryd.ntmps38
    go_wp2_with (first | ((with_reducible refine gate_dst (N := 1) rfl ?_); (try (refine gate_guard (by rfl) ?_; dsimp only)); refine box_event ?hg (N := 1) ?hd (cs := #[.int .i64 a0_0, .bool a0_1, .string a0_2, .string a0_3]) (t := 28) ?hr ?_; (case hd => rfl); (case hg => rfl); (case hr => first | (go_simp; done) | (go_simp; rfl)); intro gb324 hg w40 hbox hb; have n0_ := Aside0.mk (below_step bl hb); have n1_ := Aside0.mk (hbox); have n2_ := Aside0.mk ((by rw [hg]; exact (below_size bl) : w.heap.size ≤ gb324)); have n3_ := Aside0.mk ((by rw [hg]; exact (below_size bl) : w.heap.size ≤ gb324)); clear HB; have HB := n0_; have BK324 := n1_; have GW324 := n2_; have GE324 := n3_; clear n0_ n1_ n2_ n3_; clear hb hbox hg; have hcz41_0 : w40.cell? ⟨gb324, 0, none⟩ = some (.int .i64 a0_0) := (blk_cell BK324.out 0).trans rfl; have hcz41_1 : w40.cell? ⟨gb324, 1, none⟩ = some (.bool a0_1) := (blk_cell BK324.out 1).trans rfl; have hcz41_2 : w40.cell? ⟨gb324, 2, none⟩ = some (.string a0_2) := (blk_cell BK324.out 2).trans rfl; have hcz41_3 : w40.cell? ⟨gb324, 3, none⟩ = some (.string a0_3) := (blk_cell BK324.out 3).trans rfl; have hfz41_0 := blk_frozen BK324.out 0; have hfz41_1 := blk_frozen BK324.out 1; have hfz41_2 := blk_frozen BK324.out 2; have hfz41_3 := blk_frozen BK324.out 3))
    go_ret
    exact ⟨by first | rfl | (simp [errW_none, errW_some] <;> rfl) | (simp [*, errW_none, errW_some] <;> rfl) | ((generalize ByteArray.toList _ = z_); cases z_ <;> first | rfl | (simp; done)), bl⟩

end Go.Proofs.YtbjlcipamdgnjaaDoor.PN
