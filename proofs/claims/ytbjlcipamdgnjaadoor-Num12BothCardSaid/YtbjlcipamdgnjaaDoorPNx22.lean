/- Written by this session's own program (xprint, made over the kit's print): Lean functions with the same answers as the Go functions, and the proofs of that. Not trusted: Lean checks it. -/
import Derived.Test.YtbjlcipamdgnjaaDoorPNx0
import Derived.Test.YtbjlcipamdgnjaaDoorPNx1
import Derived.Test.YtbjlcipamdgnjaaDoorPNx3
import Derived.Test.YtbjlcipamdgnjaaDoorPNx5
import Derived.Test.YtbjlcipamdgnjaaDoorPNx6
import Derived.Test.YtbjlcipamdgnjaaDoorPNx20
import Derived.Test.YtbjlcipamdgnjaaDoorPNx21
import Derived.Test.YtbjlcipamdgnjaaDoorXW
namespace Go.Proofs.YtbjlcipamdgnjaaDoor.PN
open Go.Proofs.YtbjlcipamdgnjaaDoor.XW Go.RowKit Go.Proofs.YtbjlcipamdgnjaaDoorW.PrintWords Go.Proofs.YtbjlcipamdgnjaaDoorW.PrintLast Go.Proofs.YtbjlcipamdgnjaaDoorW.PrintMore
attribute [local go_sem] max2_int min2_int max_two min_two max_three min_three max_four min_four   -- for this text's walks alone
set_option linter.unusedVariables false
set_option linter.unusedSimpArgs false

attribute [local go_sem high] eqA28
/-! ### targumlaw8_Num12Both: function 7 -/
def targumlaw8_Num12Both.j0 : Nat → ByteArray → Bool → Option (Bool)
 | 0, _, _ => none
 | k + 1, x0, x47 => if x47 = true then (some false) else ((num12_Float.f k x0).bind fun bt497 => ((targumref6_Float11.f k x0).bind fun bt503 => (if bt497.2.2.2.2 = true then (if bt503.2.2.2.2 = 0 then (some true) else (some (bt497.1 == bt503.1 && (bt497.2.1 == bt503.2.1 && (bt497.2.2.1.toList == bt503.2.2.1.toList && (bt497.2.2.2.1.toList == bt503.2.2.2.1.toList)))))) else (some true))))
def targumlaw8_Num12Both.f (k : Nat) (a0 : ByteArray) : Option (Bool) := (targumlaw8_known.f k).bind fun t492 => (if t492 = true then (if (a0.size : Int) > 60 then (some true) else ((num12_Int.f k a0).bind fun bt493 => ((targumref6_Int11.f k a0).bind fun bt495 => (if bt493.2 = true then (if bt495.2 > 3 then (if bt493.1.toList = bt495.1.toList then (if bt495.2 = 5 then (targumlaw8_Num12Both.j0 k a0 ((bt493.1.size : Int) == 0)) else (targumlaw8_Num12Both.j0 k a0 false)) else (targumlaw8_Num12Both.j0 k a0 true)) else (if bt495.2 = 5 then (targumlaw8_Num12Both.j0 k a0 ((bt493.1.size : Int) == 0)) else (targumlaw8_Num12Both.j0 k a0 false))) else (targumlaw8_Num12Both.j0 k a0 false))))) else (some false))
theorem targumlaw8_Num12Both.mono_l : ∀ k, (∀ y0 y1, LeO (targumlaw8_Num12Both.j0 k y0 y1) (targumlaw8_Num12Both.j0 (k + 1) y0 y1))
 | 0 => fun _ _ r h => by simp [targumlaw8_Num12Both.j0] at h
 | k + 1 => by
  have ih0 := targumlaw8_Num12Both.mono_l k
  ·intro y0 y1
   unfold targumlaw8_Num12Both.j0
   repeat' first
   | (with_reducible exact ih0 _ _)
   | (with_reducible exact num12_Float.mono _ _)
   | (with_reducible exact num12_Int.mono _ _)
   | (with_reducible exact targumlaw8_known.mono _)
   | (with_reducible exact targumref6_Float11.mono _ _)
   | (with_reducible exact targumref6_Int11.mono _ _)
   | (with_reducible exact LeO.refl _)
   | (with_reducible exact LeO.none _)
   | (with_reducible refine LeO.ite ?_ ?_)
   | (with_reducible refine LeO.bind ?_ (fun _ => ?_))
   | exact ih0 _ _
   | exact num12_Float.mono _ _
   | exact num12_Int.mono _ _
   | exact targumlaw8_known.mono _
   | exact targumref6_Float11.mono _ _
   | exact targumref6_Int11.mono _ _
   | exact LeO.none _
   | refine LeO.ite ?_ ?_
   | refine LeO.bind ?_ (fun _ => ?_)
theorem targumlaw8_Num12Both.mono : ∀ a0 k, LeO (targumlaw8_Num12Both.f k a0) (targumlaw8_Num12Both.f (k + 1) a0) := by
 intro a0 k
 have ih0 := targumlaw8_Num12Both.mono_l k
 unfold targumlaw8_Num12Both.f
 repeat' first
   | (with_reducible exact ih0 _ _)
   | (with_reducible exact num12_Float.mono _ _)
   | (with_reducible exact num12_Int.mono _ _)
   | (with_reducible exact targumlaw8_known.mono _)
   | (with_reducible exact targumref6_Float11.mono _ _)
   | (with_reducible exact targumref6_Int11.mono _ _)
   | (with_reducible exact LeO.refl _)
   | (with_reducible exact LeO.none _)
   | (with_reducible refine LeO.ite ?_ ?_)
   | (with_reducible refine LeO.bind ?_ (fun _ => ?_))
   | exact ih0 _ _
   | exact num12_Float.mono _ _
   | exact num12_Int.mono _ _
   | exact targumlaw8_known.mono _
   | exact targumref6_Float11.mono _ _
   | exact targumref6_Int11.mono _ _
   | exact LeO.none _
   | refine LeO.ite ?_ ?_
   | refine LeO.bind ?_ (fun _ => ?_)
set_option maxHeartbeats 8000000 in
set_option maxRecDepth 100000 in
theorem targumlaw8_Num12Both.calls (k : Nat) (a0 : ByteArray) (r : Bool) (w : World) (hG : Go.Proofs.YtbjlcipamdgnjaaDoor.Room.PowTab w) (h : targumlaw8_Num12Both.f k a0 = some r) :
  Calls Tryd.prog 7 #[.string a0] w fun e w' => e = .returned (.bool r) ∧ Below w.heap.size w w' := by
 have hu28 := Tryd.underlying28
 have HG := Aside0.mk hG
 clear hG
 have HB := Aside0.mk (Below.refl w.heap.size w)
 have H : ((targumlaw8_known.f k).bind fun t492 => (if t492 = true then (if (a0.size : Int) > 60 then (some true) else ((num12_Int.f k a0).bind fun bt493 => ((targumref6_Int11.f k a0).bind fun bt495 => (if bt493.2 = true then (if bt495.2 > 3 then (if bt493.1.toList = bt495.1.toList then (if bt495.2 = 5 then (targumlaw8_Num12Both.j0 k a0 ((bt493.1.size : Int) == 0)) else (targumlaw8_Num12Both.j0 k a0 false)) else (targumlaw8_Num12Both.j0 k a0 true)) else (if bt495.2 = 5 then (targumlaw8_Num12Both.j0 k a0 ((bt493.1.size : Int) == 0)) else (targumlaw8_Num12Both.j0 k a0 false))) else (targumlaw8_Num12Both.j0 k a0 false))))) else (some false))) = some r := h
 clear h
 replace H := Option.bind_eq_some_iff.mp H
 obtain ⟨t492, A20, H⟩ := H
 replace H : (if t492 = true then (if (a0.size : Int) > 60 then (some true) else ((num12_Int.f k a0).bind fun bt493 => ((targumref6_Int11.f k a0).bind fun bt495 => (if bt493.2 = true then (if bt495.2 > 3 then (if bt493.1.toList = bt495.1.toList then (if bt495.2 = 5 then (targumlaw8_Num12Both.j0 k a0 ((bt493.1.size : Int) == 0)) else (targumlaw8_Num12Both.j0 k a0 false)) else (targumlaw8_Num12Both.j0 k a0 true)) else (if bt495.2 = 5 then (targumlaw8_Num12Both.j0 k a0 ((bt493.1.size : Int) == 0)) else (targumlaw8_Num12Both.j0 k a0 false))) else (targumlaw8_Num12Both.j0 k a0 false))))) else (some false)) = some r := H
 have A2 := Aside0.mk A20
 clear A20
 by_cases c3 : t492 = true
 ·subst c3
  have H1 : (if (a0.size : Int) > 60 then (some true) else ((num12_Int.f k a0).bind fun bt493 => ((targumref6_Int11.f k a0).bind fun bt495 => (if bt493.2 = true then (if bt495.2 > 3 then (if bt493.1.toList = bt495.1.toList then (if bt495.2 = 5 then (targumlaw8_Num12Both.j0 k a0 ((bt493.1.size : Int) == 0)) else (targumlaw8_Num12Both.j0 k a0 false)) else (targumlaw8_Num12Both.j0 k a0 true)) else (if bt495.2 = 5 then (targumlaw8_Num12Both.j0 k a0 ((bt493.1.size : Int) == 0)) else (targumlaw8_Num12Both.j0 k a0 false))) else (targumlaw8_Num12Both.j0 k a0 false))))) = some r := by rw [if_pos rfl] at H; exact H
  clear H
  have H := H1
  clear H1
  by_cases c4 : (a0.size : Int) > 60
  ·rw [if_pos c4] at H
   have c4b0 : decide (60 < (a0.size : Int)) = true := decide_eq_true c4
   have c4b1 : decide (60 < a0.size) = true := decide_eq_true (by omega)
   clear c4
   obtain rfl := Option.some.inj H
   go_enter Tryd.func7, Tryd.ntmps7
   go_wp2_with (first | ((with_reducible refine gate_callee (f := 8) rfl ?_); refine goesL_ (some 11) rfl rfl Tryd.func8 (by kernel_rfl) rfl #[] rfl (by (try simp only [List.map_toArray, List.map_cons, List.map_nil]); first | done | rfl | (simp only [List.length_drop, List.length_take]; rfl)) ?_; (with_reducible refine (targumlaw8_known.calls k  true _ ?side1 A2.out).mono ?_); (case side1 => exact Go.Proofs.YtbjlcipamdgnjaaDoor.Room.PowTab_below HG.out bl); rintro e w5 ⟨rfl, hb⟩; refine ⟨_, rfl, ?_⟩; have n0_ := Aside0.mk (below_step bl hb); clear HB; have HB := n0_; clear n0_; (try clear hb); (try clear hb2); (try clear hk); (try clear hi)))
   go_ret
   exact ⟨by first | rfl | (simp [errW_none, errW_some] <;> rfl) | (simp [*, errW_none, errW_some] <;> rfl), bl⟩
  ·rw [if_neg c4] at H
   have c4b0 : decide (60 < (a0.size : Int)) = false := decide_eq_false c4
   have c4b1 : decide (60 < a0.size) = false := decide_eq_false (by omega)
   clear c4
   replace H := Option.bind_eq_some_iff.mp H
   obtain ⟨⟨t493, t494⟩, A60, H⟩ := H
   replace H : ((targumref6_Int11.f k a0).bind fun bt495 => (if t494 = true then (if bt495.2 > 3 then (if t493.toList = bt495.1.toList then (if bt495.2 = 5 then (targumlaw8_Num12Both.j0 k a0 ((t493.size : Int) == 0)) else (targumlaw8_Num12Both.j0 k a0 false)) else (targumlaw8_Num12Both.j0 k a0 true)) else (if bt495.2 = 5 then (targumlaw8_Num12Both.j0 k a0 ((t493.size : Int) == 0)) else (targumlaw8_Num12Both.j0 k a0 false))) else (targumlaw8_Num12Both.j0 k a0 false))) = some r := H
   have A6 := Aside0.mk A60
   clear A60
   replace H := Option.bind_eq_some_iff.mp H
   obtain ⟨⟨t495, t496⟩, A70, H⟩ := H
   replace H : (if t494 = true then (if t496 > 3 then (if t493.toList = t495.toList then (if t496 = 5 then (targumlaw8_Num12Both.j0 k a0 ((t493.size : Int) == 0)) else (targumlaw8_Num12Both.j0 k a0 false)) else (targumlaw8_Num12Both.j0 k a0 true)) else (if t496 = 5 then (targumlaw8_Num12Both.j0 k a0 ((t493.size : Int) == 0)) else (targumlaw8_Num12Both.j0 k a0 false))) else (targumlaw8_Num12Both.j0 k a0 false)) = some r := H
   have A7 := Aside0.mk A70
   clear A70
   have HC8 := Aside0.mk H
   clear H
   go_enter Tryd.func7, Tryd.ntmps7
   go_upto_region 7 with (first | ((with_reducible refine gate_callee (f := 8) rfl ?_); refine goesL_ (some 11) rfl rfl Tryd.func8 (by kernel_rfl) rfl #[] rfl (by (try simp only [List.map_toArray, List.map_cons, List.map_nil]); first | done | rfl | (simp only [List.length_drop, List.length_take]; rfl)) ?_; (with_reducible refine (targumlaw8_known.calls k  true _ ?side1 A2.out).mono ?_); (case side1 => exact Go.Proofs.YtbjlcipamdgnjaaDoor.Room.PowTab_below HG.out bl); rintro e w9 ⟨rfl, hb⟩; refine ⟨_, rfl, ?_⟩; have n0_ := Aside0.mk (below_step bl hb); clear HB; have HB := n0_; clear n0_; (try clear hb); (try clear hb2); (try clear hk); (try clear hi)) | ((with_reducible refine gate_callee (f := 9) rfl ?_); refine goesL_ (some 18) rfl rfl Tryd.func9 (by kernel_rfl) rfl #[.string a0] rfl (by (try simp only [List.map_toArray, List.map_cons, List.map_nil]); first | done | rfl | (simp only [List.length_drop, List.length_take]; rfl)) ?_; (with_reducible refine (num12_Int.calls k a0 t493 t494 _ ?side1 A6.out).mono ?_); (case side1 => exact Go.Proofs.YtbjlcipamdgnjaaDoor.Room.PowTab_below HG.out bl); rintro e w10 ⟨rfl, hb⟩; refine ⟨_, rfl, ?_⟩; have n0_ := Aside0.mk (below_step bl hb); clear HB; have HB := n0_; clear n0_; (try clear hb); (try clear hb2); (try clear hk); (try clear hi)) | ((with_reducible refine gate_callee (f := 19) rfl ?_); refine goesL_ (some 23) rfl rfl Tryd.func19 (by kernel_rfl) rfl #[.string a0] rfl (by (try simp only [List.map_toArray, List.map_cons, List.map_nil]); first | done | rfl | (simp only [List.length_drop, List.length_take]; rfl)) ?_; (with_reducible refine (targumref6_Int11.calls k a0 t495 t496 _ A7.out).mono ?_); rintro e w11 ⟨rfl, hb⟩; refine ⟨_, rfl, ?_⟩; have n0_ := Aside0.mk (below_step bl hb); clear HB; have HB := n0_; clear n0_; (try clear hb); (try clear hb2); (try clear hk); (try clear hi)))
   (try simp only [Act.put, List.setIfInBounds_toArray, List.set_cons_zero, List.set_cons_succ])
   go_cut [47] (fun v47 wc => ∃ (kq : Nat) (x47_7 : Bool), v47 = .bool x47_7 ∧ Aside0 (targumlaw8_Num12Both.j0 kq a0 x47_7 = some r) ∧ Aside0 (kq ≤ k) ∧ Aside0 (Below w.heap.size w wc))
   case first =>
    have H := HC8.out
    clear HC8
    by_cases c12 : t494 = true
    ·subst c12
     have H1 : (if t496 > 3 then (if t493.toList = t495.toList then (if t496 = 5 then (targumlaw8_Num12Both.j0 k a0 ((t493.size : Int) == 0)) else (targumlaw8_Num12Both.j0 k a0 false)) else (targumlaw8_Num12Both.j0 k a0 true)) else (if t496 = 5 then (targumlaw8_Num12Both.j0 k a0 ((t493.size : Int) == 0)) else (targumlaw8_Num12Both.j0 k a0 false))) = some r := by rw [if_pos rfl] at H; exact H
     clear H
     have H := H1
     clear H1
     by_cases c13 : t496 > 3
     ·rw [if_pos c13] at H
      have c13b0 : decide (3 < t496) = true := decide_eq_true c13
      clear c13
      (first | rw [c13b0] | (simp only [i64_w, i32_w]; rw [c13b0]) | skip)
      by_cases c14 : t493.toList = t495.toList
      ·rw [if_pos c14] at H
       have c14b0 : (t493.toList == t495.toList) = true := beq_iff_eq.mpr c14
       have c14b1 : (t493.toList != t495.toList) = false := bne_eq_false_iff_eq.mpr c14
       clear c14
       by_cases c15 : t496 = 5
       ·rw [if_pos c15] at H
        have c15b0 : (t496 == 5) = true := beq_iff_eq.mpr c15
        have c15b1 : (t496 != 5) = false := bne_eq_false_iff_eq.mpr c15
        clear c15
        have H' := Aside0.mk H
        clear H
        go_wp2
        go_meet
        case rel => exact ⟨_, (((t493.size : Int) == 0)), (by first | rfl | (simp; done) | (simp [*]; done) | (simp [wrap64]; done)), H', ⟨by first | omega | exact Nat.le_refl _⟩, ⟨bl⟩⟩
       ·rw [if_neg c15] at H
        have c15b0 : (t496 == 5) = false := beq_eq_false_iff_ne.mpr c15
        have c15b1 : (t496 != 5) = true := bne_iff_ne.mpr c15
        have H' := Aside0.mk H
        clear H
        go_wp2
        go_meet
        case rel => exact ⟨_, (false), (by first | rfl | (simp; done) | (simp [*]; done) | (simp [wrap64]; done)), H', ⟨by first | omega | exact Nat.le_refl _⟩, ⟨bl⟩⟩
      ·rw [if_neg c14] at H
       have c14b0 : (t493.toList == t495.toList) = false := beq_eq_false_iff_ne.mpr c14
       have c14b1 : (t493.toList != t495.toList) = true := bne_iff_ne.mpr c14
       have H' := Aside0.mk H
       clear H
       go_wp2
       go_meet
       case rel => exact ⟨_, (true), (by first | rfl | (simp; done) | (simp [*]; done) | (simp [wrap64]; done)), H', ⟨by first | omega | exact Nat.le_refl _⟩, ⟨bl⟩⟩
     ·rw [if_neg c13] at H
      have c13b0 : decide (3 < t496) = false := decide_eq_false c13
      clear c13
      (first | rw [c13b0] | (simp only [i64_w, i32_w]; rw [c13b0]) | skip)
      by_cases c16 : t496 = 5
      ·rw [if_pos c16] at H
       have c16b0 : (t496 == 5) = true := beq_iff_eq.mpr c16
       have c16b1 : (t496 != 5) = false := bne_eq_false_iff_eq.mpr c16
       clear c16
       have H' := Aside0.mk H
       clear H
       go_wp2
       go_meet
       case rel => exact ⟨_, (((t493.size : Int) == 0)), (by first | rfl | (simp; done) | (simp [*]; done) | (simp [wrap64]; done)), H', ⟨by first | omega | exact Nat.le_refl _⟩, ⟨bl⟩⟩
      ·rw [if_neg c16] at H
       have c16b0 : (t496 == 5) = false := beq_eq_false_iff_ne.mpr c16
       have c16b1 : (t496 != 5) = true := bne_iff_ne.mpr c16
       have H' := Aside0.mk H
       clear H
       go_wp2
       go_meet
       case rel => exact ⟨_, (false), (by first | rfl | (simp; done) | (simp [*]; done) | (simp [wrap64]; done)), H', ⟨by first | omega | exact Nat.le_refl _⟩, ⟨bl⟩⟩
    ·replace c12 := Bool.eq_false_iff.mpr c12
     subst c12
     have H1 : (targumlaw8_Num12Both.j0 k a0 false) = some r := by rw [if_neg (show ¬ (false = true) by decide)] at H; exact H
     clear H
     have H := H1
     clear H1
     have H' := Aside0.mk H
     clear H
     go_wp2
     go_meet
     case rel => exact ⟨_, (false), (by first | rfl | (simp; done) | (simp [*]; done) | (simp [wrap64]; done)), H', ⟨by first | omega | exact Nat.le_refl _⟩, ⟨bl⟩⟩
   case rest =>
    clear HC8
    try clear c1; try clear p2; try clear c3; try clear c4; try clear c4b0; try clear c4b1; try clear c7; try clear c8; try clear c9; try clear c12; try clear c13; try clear c13b0; try clear c14; try clear c14b0; try clear c14b1; try clear c15; try clear c15b0; try clear c15b1; try clear c16; try clear c16b0; try clear c16b1
    obtain ⟨kq, x47_7, rfl, HA, HJ7, HB⟩ := hcut
    cases kq with
    | zero => exact absurd HA.out (by simp [targumlaw8_Num12Both.j0])
    | succ kj7 =>
     have H := HA.out
     clear HA
     simp only [targumlaw8_Num12Both.j0] at H
     by_cases c17 : x47_7 = true
     ·subst c17
      have H1 : (some false) = some r := by rw [if_pos rfl] at H; exact H
      clear H
      have H := H1
      clear H1
      obtain rfl := Option.some.inj H
      go_wp2
      go_ret
      exact ⟨by first | rfl | (simp [errW_none, errW_some] <;> rfl) | (simp [*, errW_none, errW_some] <;> rfl), bl⟩
     ·replace c17 := Bool.eq_false_iff.mpr c17
      subst c17
      have H1 : ((num12_Float.f kj7 a0).bind fun bt497 => ((targumref6_Float11.f kj7 a0).bind fun bt503 => (if bt497.2.2.2.2 = true then (if bt503.2.2.2.2 = 0 then (some true) else (some (bt497.1 == bt503.1 && (bt497.2.1 == bt503.2.1 && (bt497.2.2.1.toList == bt503.2.2.1.toList && (bt497.2.2.2.1.toList == bt503.2.2.2.1.toList)))))) else (some true)))) = some r := by rw [if_neg (show ¬ (false = true) by decide)] at H; exact H
      clear H
      have H := H1
      clear H1
      replace H := Option.bind_eq_some_iff.mp H
      obtain ⟨⟨t497, t498, t499, t500, t501⟩, A180, H⟩ := H
      replace H : ((targumref6_Float11.f kj7 a0).bind fun bt503 => (if t501 = true then (if bt503.2.2.2.2 = 0 then (some true) else (some (t497 == bt503.1 && (t498 == bt503.2.1 && (t499.toList == bt503.2.2.1.toList && (t500.toList == bt503.2.2.2.1.toList)))))) else (some true))) = some r := H
      have A18 := Aside0.mk A180
      clear A180
      replace H := Option.bind_eq_some_iff.mp H
      obtain ⟨⟨t503, t504, t505, t506, t507⟩, A190, H⟩ := H
      replace H : (if t501 = true then (if t507 = 0 then (some true) else (some (t497 == t503 && (t498 == t504 && (t499.toList == t505.toList && (t500.toList == t506.toList)))))) else (some true)) = some r := H
      have A19 := Aside0.mk A190
      clear A190
      by_cases c20 : t501 = true
      ·subst c20
       have H1 : (if t507 = 0 then (some true) else (some (t497 == t503 && (t498 == t504 && (t499.toList == t505.toList && (t500.toList == t506.toList)))))) = some r := by rw [if_pos rfl] at H; exact H
       clear H
       have H := H1
       clear H1
       by_cases c21 : t507 = 0
       ·rw [if_pos c21] at H
        have c21b0 : (t507 == 0) = true := beq_iff_eq.mpr c21
        have c21b1 : (t507 != 0) = false := bne_eq_false_iff_eq.mpr c21
        clear c21
        obtain rfl := Option.some.inj H
        go_wp2_with (first | ((with_reducible refine gate_callee (f := 11) rfl ?_); refine goesL_ (some 50) rfl rfl Tryd.func11 (by kernel_rfl) rfl #[.string a0] rfl (by (try simp only [List.map_toArray, List.map_cons, List.map_nil]); first | done | rfl | (simp only [List.length_drop, List.length_take]; rfl)) ?_; (with_reducible refine (num12_Float.calls kj7 a0 t497 t498 t499 t500 true _ ?side1 A18.out).mono ?_); (case side1 => exact Go.Proofs.YtbjlcipamdgnjaaDoor.Room.PowTab_below HG.out bl); rintro e w22 ⟨rfl, hb⟩; refine ⟨_, rfl, ?_⟩; have n0_ := Aside0.mk (below_step bl hb); clear HB; have HB := n0_; clear n0_; (try clear hb); (try clear hb2); (try clear hk); (try clear hi)) | ((with_reducible refine gate_dst (N := 7) rfl ?_); (try (refine gate_guard (by rfl) ?_; dsimp only)); refine box_event ?hg (N := 7) ?hd (cs := #[.int .i64 0, .bool false, .string (⟨#[]⟩ : ByteArray), .string (⟨#[]⟩ : ByteArray)]) (t := 28) ?hr ?_; (case hd => rfl); (case hg => rfl); (case hr => first | (go_simp; done) | (go_simp; rfl)); intro gb502 hg w23 hbox hb; have n0_ := Aside0.mk (below_step bl hb); have n1_ := Aside0.mk (hbox); have n2_ := Aside0.mk ((by rw [hg]; exact (below_size bl) : w.heap.size ≤ gb502)); have n3_ := Aside0.mk ((by rw [hg]; exact (below_size bl) : w.heap.size ≤ gb502)); clear HB; have HB := n0_; have BK502 := n1_; have GW502 := n2_; have GE502 := n3_; clear n0_ n1_ n2_ n3_; clear hb hbox hg; have hcz24_0 : w23.cell? ⟨gb502, 0, none⟩ = some (.int .i64 0) := (blk_cell BK502.out 0).trans rfl; have hcz24_1 : w23.cell? ⟨gb502, 1, none⟩ = some (.bool false) := (blk_cell BK502.out 1).trans rfl; have hcz24_2 : w23.cell? ⟨gb502, 2, none⟩ = some (.string (⟨#[]⟩ : ByteArray)) := (blk_cell BK502.out 2).trans rfl; have hcz24_3 : w23.cell? ⟨gb502, 3, none⟩ = some (.string (⟨#[]⟩ : ByteArray)) := (blk_cell BK502.out 3).trans rfl; have hfz24_0 := blk_frozen BK502.out 0; have hfz24_1 := blk_frozen BK502.out 1; have hfz24_2 := blk_frozen BK502.out 2; have hfz24_3 := blk_frozen BK502.out 3) | ((with_reducible refine gate_callee (f := 20) rfl ?_); refine goesL_ (some 55) rfl rfl Tryd.func20 (by kernel_rfl) rfl #[.string a0] rfl (by (try simp only [List.map_toArray, List.map_cons, List.map_nil]); first | done | rfl | (simp only [List.length_drop, List.length_take]; rfl)) ?_; (with_reducible refine (targumref6_Float11.calls kj7 a0 t503 t504 t505 t506 t507 _ A19.out).mono ?_); rintro e w25 ⟨rfl, hb⟩; refine ⟨_, rfl, ?_⟩; have n0_ := Aside0.mk (blk_below (g := gb502) (o := .cells #[.int .i64 t497, .bool t498, .string t499, .string t500] 28 (0, 0)) bk hb); have n1_ := Aside0.mk (below_step bl hb); clear BK502; clear HB; have BK502 := n0_; have HB := n1_; clear n0_ n1_; (try clear hb); (try clear hb2); (try clear hk); (try clear hi)) | ((with_reducible refine gate_dst (N := 9) rfl ?_); (try (refine gate_guard (by rfl) ?_; dsimp only)); refine box_event ?hg (N := 9) ?hd (cs := #[.int .i64 0, .bool false, .string (⟨#[]⟩ : ByteArray), .string (⟨#[]⟩ : ByteArray)]) (t := 28) ?hr ?_; (case hd => rfl); (case hg => rfl); (case hr => first | (go_simp; done) | (go_simp; rfl)); intro gb508 hg w26 hbox hb; have n0_ := Aside0.mk (blk_below (g := gb502) (o := .cells #[.int .i64 t497, .bool t498, .string t499, .string t500] 28 (0, 0)) bk hb); have n1_ := Aside0.mk (below_step bl hb); have n2_ := Aside0.mk (hbox); have n3_ := Aside0.mk ((by rw [hg]; exact (below_size bl) : w.heap.size ≤ gb508)); have n4_ := Aside0.mk ((by rw [hg]; exact (below_size bl) : w.heap.size ≤ gb508)); have n5_ := Aside0.mk ((by rw [hg]; exact Nat.ne_of_lt (blk_lt (g := gb502) (o := .cells #[.int .i64 t497, .bool t498, .string t499, .string t500] 28 (0, 0)) bk) : gb502 ≠ gb508)); have n6_ := Aside0.mk ((by rw [hg]; exact Nat.ne_of_gt (blk_lt (g := gb502) (o := .cells #[.int .i64 t497, .bool t498, .string t499, .string t500] 28 (0, 0)) bk) : gb508 ≠ gb502)); clear BK502; clear HB; have BK502 := n0_; have HB := n1_; have BK508 := n2_; have GW508 := n3_; have GE508 := n4_; have NB502_508 := n5_; have NB508_502 := n6_; clear n0_ n1_ n2_ n3_ n4_ n5_ n6_; clear hb hbox hg; have hnb27 := NB508_502.out; have hnc27 := NB502_508.out; have hcz28_0 : w26.cell? ⟨gb508, 0, none⟩ = some (.int .i64 0) := (blk_cell BK508.out 0).trans rfl; have hcz28_1 : w26.cell? ⟨gb508, 1, none⟩ = some (.bool false) := (blk_cell BK508.out 1).trans rfl; have hcz28_2 : w26.cell? ⟨gb508, 2, none⟩ = some (.string (⟨#[]⟩ : ByteArray)) := (blk_cell BK508.out 2).trans rfl; have hcz28_3 : w26.cell? ⟨gb508, 3, none⟩ = some (.string (⟨#[]⟩ : ByteArray)) := (blk_cell BK508.out 3).trans rfl; have hfz28_0 := blk_frozen BK508.out 0; have hfz28_1 := blk_frozen BK508.out 1; have hfz28_2 := blk_frozen BK508.out 2; have hfz28_3 := blk_frozen BK508.out 3))
        go_ret
        exact ⟨by first | rfl | (simp [errW_none, errW_some] <;> rfl) | (simp [*, errW_none, errW_some] <;> rfl), bl⟩
       ·rw [if_neg c21] at H
        have c21b0 : (t507 == 0) = false := beq_eq_false_iff_ne.mpr c21
        have c21b1 : (t507 != 0) = true := bne_iff_ne.mpr c21
        obtain rfl := Option.some.inj H
        go_wp2_with (first | ((with_reducible refine gate_callee (f := 11) rfl ?_); refine goesL_ (some 50) rfl rfl Tryd.func11 (by kernel_rfl) rfl #[.string a0] rfl (by (try simp only [List.map_toArray, List.map_cons, List.map_nil]); first | done | rfl | (simp only [List.length_drop, List.length_take]; rfl)) ?_; (with_reducible refine (num12_Float.calls kj7 a0 t497 t498 t499 t500 true _ ?side1 A18.out).mono ?_); (case side1 => exact Go.Proofs.YtbjlcipamdgnjaaDoor.Room.PowTab_below HG.out bl); rintro e w29 ⟨rfl, hb⟩; refine ⟨_, rfl, ?_⟩; have n0_ := Aside0.mk (below_step bl hb); clear HB; have HB := n0_; clear n0_; (try clear hb); (try clear hb2); (try clear hk); (try clear hi)) | ((with_reducible refine gate_dst (N := 7) rfl ?_); (try (refine gate_guard (by rfl) ?_; dsimp only)); refine box_event ?hg (N := 7) ?hd (cs := #[.int .i64 0, .bool false, .string (⟨#[]⟩ : ByteArray), .string (⟨#[]⟩ : ByteArray)]) (t := 28) ?hr ?_; (case hd => rfl); (case hg => rfl); (case hr => first | (go_simp; done) | (go_simp; rfl)); intro gb502 hg w30 hbox hb; have n0_ := Aside0.mk (below_step bl hb); have n1_ := Aside0.mk (hbox); have n2_ := Aside0.mk ((by rw [hg]; exact (below_size bl) : w.heap.size ≤ gb502)); have n3_ := Aside0.mk ((by rw [hg]; exact (below_size bl) : w.heap.size ≤ gb502)); clear HB; have HB := n0_; have BK502 := n1_; have GW502 := n2_; have GE502 := n3_; clear n0_ n1_ n2_ n3_; clear hb hbox hg; have hcz31_0 : w30.cell? ⟨gb502, 0, none⟩ = some (.int .i64 0) := (blk_cell BK502.out 0).trans rfl; have hcz31_1 : w30.cell? ⟨gb502, 1, none⟩ = some (.bool false) := (blk_cell BK502.out 1).trans rfl; have hcz31_2 : w30.cell? ⟨gb502, 2, none⟩ = some (.string (⟨#[]⟩ : ByteArray)) := (blk_cell BK502.out 2).trans rfl; have hcz31_3 : w30.cell? ⟨gb502, 3, none⟩ = some (.string (⟨#[]⟩ : ByteArray)) := (blk_cell BK502.out 3).trans rfl; have hfz31_0 := blk_frozen BK502.out 0; have hfz31_1 := blk_frozen BK502.out 1; have hfz31_2 := blk_frozen BK502.out 2; have hfz31_3 := blk_frozen BK502.out 3) | ((with_reducible refine gate_callee (f := 20) rfl ?_); refine goesL_ (some 55) rfl rfl Tryd.func20 (by kernel_rfl) rfl #[.string a0] rfl (by (try simp only [List.map_toArray, List.map_cons, List.map_nil]); first | done | rfl | (simp only [List.length_drop, List.length_take]; rfl)) ?_; (with_reducible refine (targumref6_Float11.calls kj7 a0 t503 t504 t505 t506 t507 _ A19.out).mono ?_); rintro e w32 ⟨rfl, hb⟩; refine ⟨_, rfl, ?_⟩; have n0_ := Aside0.mk (blk_below (g := gb502) (o := .cells #[.int .i64 t497, .bool t498, .string t499, .string t500] 28 (0, 0)) bk hb); have n1_ := Aside0.mk (below_step bl hb); clear BK502; clear HB; have BK502 := n0_; have HB := n1_; clear n0_ n1_; (try clear hb); (try clear hb2); (try clear hk); (try clear hi)) | ((with_reducible refine gate_dst (N := 9) rfl ?_); (try (refine gate_guard (by rfl) ?_; dsimp only)); refine box_event ?hg (N := 9) ?hd (cs := #[.int .i64 0, .bool false, .string (⟨#[]⟩ : ByteArray), .string (⟨#[]⟩ : ByteArray)]) (t := 28) ?hr ?_; (case hd => rfl); (case hg => rfl); (case hr => first | (go_simp; done) | (go_simp; rfl)); intro gb508 hg w33 hbox hb; have n0_ := Aside0.mk (blk_below (g := gb502) (o := .cells #[.int .i64 t497, .bool t498, .string t499, .string t500] 28 (0, 0)) bk hb); have n1_ := Aside0.mk (below_step bl hb); have n2_ := Aside0.mk (hbox); have n3_ := Aside0.mk ((by rw [hg]; exact (below_size bl) : w.heap.size ≤ gb508)); have n4_ := Aside0.mk ((by rw [hg]; exact (below_size bl) : w.heap.size ≤ gb508)); have n5_ := Aside0.mk ((by rw [hg]; exact Nat.ne_of_lt (blk_lt (g := gb502) (o := .cells #[.int .i64 t497, .bool t498, .string t499, .string t500] 28 (0, 0)) bk) : gb502 ≠ gb508)); have n6_ := Aside0.mk ((by rw [hg]; exact Nat.ne_of_gt (blk_lt (g := gb502) (o := .cells #[.int .i64 t497, .bool t498, .string t499, .string t500] 28 (0, 0)) bk) : gb508 ≠ gb502)); clear BK502; clear HB; have BK502 := n0_; have HB := n1_; have BK508 := n2_; have GW508 := n3_; have GE508 := n4_; have NB502_508 := n5_; have NB508_502 := n6_; clear n0_ n1_ n2_ n3_ n4_ n5_ n6_; clear hb hbox hg; have hnb34 := NB508_502.out; have hnc34 := NB502_508.out; have hcz35_0 : w33.cell? ⟨gb508, 0, none⟩ = some (.int .i64 0) := (blk_cell BK508.out 0).trans rfl; have hcz35_1 : w33.cell? ⟨gb508, 1, none⟩ = some (.bool false) := (blk_cell BK508.out 1).trans rfl; have hcz35_2 : w33.cell? ⟨gb508, 2, none⟩ = some (.string (⟨#[]⟩ : ByteArray)) := (blk_cell BK508.out 2).trans rfl; have hcz35_3 : w33.cell? ⟨gb508, 3, none⟩ = some (.string (⟨#[]⟩ : ByteArray)) := (blk_cell BK508.out 3).trans rfl; have hfz35_0 := blk_frozen BK508.out 0; have hfz35_1 := blk_frozen BK508.out 1; have hfz35_2 := blk_frozen BK508.out 2; have hfz35_3 := blk_frozen BK508.out 3; have hcz36_0 : w33.cell? ⟨gb502, 0, none⟩ = some (.int .i64 t497) := (blk_cell BK502.out 0).trans rfl; have hcz36_1 : w33.cell? ⟨gb502, 1, none⟩ = some (.bool t498) := (blk_cell BK502.out 1).trans rfl; have hcz36_2 : w33.cell? ⟨gb502, 2, none⟩ = some (.string t499) := (blk_cell BK502.out 2).trans rfl; have hcz36_3 : w33.cell? ⟨gb502, 3, none⟩ = some (.string t500) := (blk_cell BK502.out 3).trans rfl; have hfz36_0 := blk_frozen BK502.out 0; have hfz36_1 := blk_frozen BK502.out 1; have hfz36_2 := blk_frozen BK502.out 2; have hfz36_3 := blk_frozen BK502.out 3))
        go_ret
        exact ⟨by first | rfl | (simp [errW_none, errW_some] <;> rfl) | (simp [*, errW_none, errW_some] <;> rfl), bl⟩
      ·replace c20 := Bool.eq_false_iff.mpr c20
       subst c20
       have H1 : (some true) = some r := by rw [if_neg (show ¬ (false = true) by decide)] at H; exact H
       clear H
       have H := H1
       clear H1
       obtain rfl := Option.some.inj H
       go_wp2_with (first | ((with_reducible refine gate_callee (f := 11) rfl ?_); refine goesL_ (some 50) rfl rfl Tryd.func11 (by kernel_rfl) rfl #[.string a0] rfl (by (try simp only [List.map_toArray, List.map_cons, List.map_nil]); first | done | rfl | (simp only [List.length_drop, List.length_take]; rfl)) ?_; (with_reducible refine (num12_Float.calls kj7 a0 t497 t498 t499 t500 false _ ?side1 A18.out).mono ?_); (case side1 => exact Go.Proofs.YtbjlcipamdgnjaaDoor.Room.PowTab_below HG.out bl); rintro e w37 ⟨rfl, hb⟩; refine ⟨_, rfl, ?_⟩; have n0_ := Aside0.mk (below_step bl hb); clear HB; have HB := n0_; clear n0_; (try clear hb); (try clear hb2); (try clear hk); (try clear hi)) | ((with_reducible refine gate_dst (N := 7) rfl ?_); (try (refine gate_guard (by rfl) ?_; dsimp only)); refine box_event ?hg (N := 7) ?hd (cs := #[.int .i64 0, .bool false, .string (⟨#[]⟩ : ByteArray), .string (⟨#[]⟩ : ByteArray)]) (t := 28) ?hr ?_; (case hd => rfl); (case hg => rfl); (case hr => first | (go_simp; done) | (go_simp; rfl)); intro gb502 hg w38 hbox hb; have n0_ := Aside0.mk (below_step bl hb); have n1_ := Aside0.mk (hbox); have n2_ := Aside0.mk ((by rw [hg]; exact (below_size bl) : w.heap.size ≤ gb502)); have n3_ := Aside0.mk ((by rw [hg]; exact (below_size bl) : w.heap.size ≤ gb502)); clear HB; have HB := n0_; have BK502 := n1_; have GW502 := n2_; have GE502 := n3_; clear n0_ n1_ n2_ n3_; clear hb hbox hg; have hcz39_0 : w38.cell? ⟨gb502, 0, none⟩ = some (.int .i64 0) := (blk_cell BK502.out 0).trans rfl; have hcz39_1 : w38.cell? ⟨gb502, 1, none⟩ = some (.bool false) := (blk_cell BK502.out 1).trans rfl; have hcz39_2 : w38.cell? ⟨gb502, 2, none⟩ = some (.string (⟨#[]⟩ : ByteArray)) := (blk_cell BK502.out 2).trans rfl; have hcz39_3 : w38.cell? ⟨gb502, 3, none⟩ = some (.string (⟨#[]⟩ : ByteArray)) := (blk_cell BK502.out 3).trans rfl; have hfz39_0 := blk_frozen BK502.out 0; have hfz39_1 := blk_frozen BK502.out 1; have hfz39_2 := blk_frozen BK502.out 2; have hfz39_3 := blk_frozen BK502.out 3) | ((with_reducible refine gate_callee (f := 20) rfl ?_); refine goesL_ (some 55) rfl rfl Tryd.func20 (by kernel_rfl) rfl #[.string a0] rfl (by (try simp only [List.map_toArray, List.map_cons, List.map_nil]); first | done | rfl | (simp only [List.length_drop, List.length_take]; rfl)) ?_; (with_reducible refine (targumref6_Float11.calls kj7 a0 t503 t504 t505 t506 t507 _ A19.out).mono ?_); rintro e w40 ⟨rfl, hb⟩; refine ⟨_, rfl, ?_⟩; have n0_ := Aside0.mk (blk_below (g := gb502) (o := .cells #[.int .i64 t497, .bool t498, .string t499, .string t500] 28 (0, 0)) bk hb); have n1_ := Aside0.mk (below_step bl hb); clear BK502; clear HB; have BK502 := n0_; have HB := n1_; clear n0_ n1_; (try clear hb); (try clear hb2); (try clear hk); (try clear hi)) | ((with_reducible refine gate_dst (N := 9) rfl ?_); (try (refine gate_guard (by rfl) ?_; dsimp only)); refine box_event ?hg (N := 9) ?hd (cs := #[.int .i64 0, .bool false, .string (⟨#[]⟩ : ByteArray), .string (⟨#[]⟩ : ByteArray)]) (t := 28) ?hr ?_; (case hd => rfl); (case hg => rfl); (case hr => first | (go_simp; done) | (go_simp; rfl)); intro gb508 hg w41 hbox hb; have n0_ := Aside0.mk (blk_below (g := gb502) (o := .cells #[.int .i64 t497, .bool t498, .string t499, .string t500] 28 (0, 0)) bk hb); have n1_ := Aside0.mk (below_step bl hb); have n2_ := Aside0.mk (hbox); have n3_ := Aside0.mk ((by rw [hg]; exact (below_size bl) : w.heap.size ≤ gb508)); have n4_ := Aside0.mk ((by rw [hg]; exact (below_size bl) : w.heap.size ≤ gb508)); have n5_ := Aside0.mk ((by rw [hg]; exact Nat.ne_of_lt (blk_lt (g := gb502) (o := .cells #[.int .i64 t497, .bool t498, .string t499, .string t500] 28 (0, 0)) bk) : gb502 ≠ gb508)); have n6_ := Aside0.mk ((by rw [hg]; exact Nat.ne_of_gt (blk_lt (g := gb502) (o := .cells #[.int .i64 t497, .bool t498, .string t499, .string t500] 28 (0, 0)) bk) : gb508 ≠ gb502)); clear BK502; clear HB; have BK502 := n0_; have HB := n1_; have BK508 := n2_; have GW508 := n3_; have GE508 := n4_; have NB502_508 := n5_; have NB508_502 := n6_; clear n0_ n1_ n2_ n3_ n4_ n5_ n6_; clear hb hbox hg; have hnb42 := NB508_502.out; have hnc42 := NB502_508.out; have hcz43_0 : w41.cell? ⟨gb508, 0, none⟩ = some (.int .i64 0) := (blk_cell BK508.out 0).trans rfl; have hcz43_1 : w41.cell? ⟨gb508, 1, none⟩ = some (.bool false) := (blk_cell BK508.out 1).trans rfl; have hcz43_2 : w41.cell? ⟨gb508, 2, none⟩ = some (.string (⟨#[]⟩ : ByteArray)) := (blk_cell BK508.out 2).trans rfl; have hcz43_3 : w41.cell? ⟨gb508, 3, none⟩ = some (.string (⟨#[]⟩ : ByteArray)) := (blk_cell BK508.out 3).trans rfl; have hfz43_0 := blk_frozen BK508.out 0; have hfz43_1 := blk_frozen BK508.out 1; have hfz43_2 := blk_frozen BK508.out 2; have hfz43_3 := blk_frozen BK508.out 3))
       go_ret
       exact ⟨by first | rfl | (simp [errW_none, errW_some] <;> rfl) | (simp [*, errW_none, errW_some] <;> rfl), bl⟩
 ·replace c3 := Bool.eq_false_iff.mpr c3
  subst c3
  have H1 : (some false) = some r := by rw [if_neg (show ¬ (false = true) by decide)] at H; exact H
  clear H
  have H := H1
  clear H1
  obtain rfl := Option.some.inj H
  go_enter Tryd.func7, Tryd.ntmps7
  go_wp2_with (first | ((with_reducible refine gate_callee (f := 8) rfl ?_); refine goesL_ (some 11) rfl rfl Tryd.func8 (by kernel_rfl) rfl #[] rfl (by (try simp only [List.map_toArray, List.map_cons, List.map_nil]); first | done | rfl | (simp only [List.length_drop, List.length_take]; rfl)) ?_; (with_reducible refine (targumlaw8_known.calls k  false _ ?side1 A2.out).mono ?_); (case side1 => exact Go.Proofs.YtbjlcipamdgnjaaDoor.Room.PowTab_below HG.out bl); rintro e w44 ⟨rfl, hb⟩; refine ⟨_, rfl, ?_⟩; have n0_ := Aside0.mk (below_step bl hb); clear HB; have HB := n0_; clear n0_; (try clear hb); (try clear hb2); (try clear hk); (try clear hi)))
  go_ret
  exact ⟨by first | rfl | (simp [errW_none, errW_some] <;> rfl) | (simp [*, errW_none, errW_some] <;> rfl), bl⟩

/-- THE ONE PURE STATEMENT of targumlaw8_Num12Both: yours. -/
def targumlaw8_Num12Both.Pure : Prop := ∀ (a0 : ByteArray), a0.size ≤ 140737488351232 → ∃ k, targumlaw8_Num12Both.f k a0 = some true
theorem targumlaw8_Num12Both.walk (P : targumlaw8_Num12Both.Pure) (a0 : ByteArray) (w : World) (w0 : a0.size ≤ 140737488351232) (hG : Go.Proofs.YtbjlcipamdgnjaaDoor.Room.PowTab w) :
  Calls Tryd.prog 7 #[.string a0] w fun e w' => e = .returned (.bool true) ∧ Below w.heap.size w w' := by
 obtain ⟨k, h⟩ := P a0 w0
 refine (targumlaw8_Num12Both.calls k a0 true w hG h).mono ?_
 rintro e w' ⟨rfl, hd⟩
 exact ⟨rfl, hd⟩

end Go.Proofs.YtbjlcipamdgnjaaDoor.PN
