/- Written by this session's own program (xprint, made over the kit's print): Lean functions with the same answers as the Go functions, and the proofs of that. Not trusted: Lean checks it. -/
import Derived.Test.YtbjlcipamdgnjaaDoorPNx0
import Derived.Test.YtbjlcipamdgnjaaDoorPNx3
import Derived.Test.YtbjlcipamdgnjaaDoorPNx5
import Derived.Test.YtbjlcipamdgnjaaDoorPNx6
import Derived.Test.YtbjlcipamdgnjaaDoorPNx8
import Derived.Test.YtbjlcipamdgnjaaDoorXW
namespace Go.Proofs.YtbjlcipamdgnjaaDoor.PN
open Go.Proofs.YtbjlcipamdgnjaaDoor.XW Go.RowKit Go.Proofs.YtbjlcipamdgnjaaDoorW.PrintWords Go.Proofs.YtbjlcipamdgnjaaDoorW.PrintLast Go.Proofs.YtbjlcipamdgnjaaDoorW.PrintMore
attribute [local go_sem] max2_int min2_int max_two min_two max_three min_three max_four min_four   -- for this text's walks alone
set_option linter.unusedVariables false
set_option linter.unusedSimpArgs false

/-! ### targumlaw8_Num12Bases: function 5 -/
mutual
def targumlaw8_Num12Bases.j0 : Nat → Int → Int → Bool → Int → ByteArray → Option (Bool)
 | 0, _, _, _, _, _ => none
 | k + 1, x0, x2, x3, x9, x10 => targumlaw8_Num12Bases.l0 k x0 x2 x3 x9 x10 (⟨#[]⟩ : ByteArray) (wrap64 (x0))
def targumlaw8_Num12Bases.l0 : Nat → Int → Int → Bool → Int → ByteArray → ByteArray → Int → Option (Bool)
 | 0, _, _, _, _, _, _, _ => none
 | k + 1, x0, x2, x3, x9, x10, x11, x12 => if x12 > 0 then (if x9 = 0 then (none) else (if 0 ≤ (Int.tmod x12 x9) then (if (Int.tmod x12 x9) ≤ (wrap64 ((Int.tmod x12 x9) + 1)) then (if (wrap64 ((Int.tmod x12 x9) + 1)) ≤ 16 then (if ((⟨#[48, 49, 50, 51, 52, 53, 54, 55, 56, 57, 97, 98, 99, 100, 101, 102]⟩ : ByteArray).extract ((Int.tmod x12 x9) : Int).toNat ((wrap64 ((Int.tmod x12 x9) + 1)) : Int).toNat).size + x11.size ≤ 9223372036854775807 then (targumlaw8_Num12Bases.l0 k x0 x2 x3 x9 x10 (((⟨#[48, 49, 50, 51, 52, 53, 54, 55, 56, 57, 97, 98, 99, 100, 101, 102]⟩ : ByteArray).extract ((Int.tmod x12 x9) : Int).toNat ((wrap64 ((Int.tmod x12 x9) + 1)) : Int).toNat) ++ x11) (wrap64 (Int.tdiv x12 x9))) else (none)) else (none)) else (none)) else (none))) else (if x11.toList = ([] : List UInt8) then (if x9 = 0 then (none) else (if 0 ≤ (Int.tmod x12 x9) then (if (Int.tmod x12 x9) ≤ (wrap64 ((Int.tmod x12 x9) + 1)) then (if (wrap64 ((Int.tmod x12 x9) + 1)) ≤ 16 then (if ((⟨#[48, 49, 50, 51, 52, 53, 54, 55, 56, 57, 97, 98, 99, 100, 101, 102]⟩ : ByteArray).extract ((Int.tmod x12 x9) : Int).toNat ((wrap64 ((Int.tmod x12 x9) + 1)) : Int).toNat).size + x11.size ≤ 9223372036854775807 then (targumlaw8_Num12Bases.l0 k x0 x2 x3 x9 x10 (((⟨#[48, 49, 50, 51, 52, 53, 54, 55, 56, 57, 97, 98, 99, 100, 101, 102]⟩ : ByteArray).extract ((Int.tmod x12 x9) : Int).toNat ((wrap64 ((Int.tmod x12 x9) + 1)) : Int).toNat) ++ x11) (wrap64 (Int.tdiv x12 x9))) else (none)) else (none)) else (none)) else (none))) else (targumlaw8_Num12Bases.l1 k x0 x2 x3 x9 x10 x11 0))
def targumlaw8_Num12Bases.l1 : Nat → Int → Int → Bool → Int → ByteArray → ByteArray → Int → Option (Bool)
 | 0, _, _, _, _, _, _, _ => none
 | k + 1, x0, x2, x3, x9, x10, x11, x13 => if x13 < (wrap64 (Int.tmod x2 9)) then (if 1 + x11.size ≤ 9223372036854775807 then (targumlaw8_Num12Bases.l1 k x0 x2 x3 x9 x10 ((⟨#[48]⟩ : ByteArray) ++ x11) (wrap64 (x13 + 1))) else (none)) else (if x3 = true then (targumlaw8_Num12Bases.j3 k x0 x3 x9 x10 x11 (⟨#[45]⟩ : ByteArray)) else (targumlaw8_Num12Bases.j3 k x0 x3 x9 x10 x11 (⟨#[43]⟩ : ByteArray)))
def targumlaw8_Num12Bases.j3 : Nat → Int → Bool → Int → ByteArray → ByteArray → ByteArray → Option (Bool)
 | 0, _, _, _, _, _, _ => none
 | k + 1, x0, x3, x9, x10, x11, x14 => if x10.size + x11.size ≤ 9223372036854775807 then ((num12_Int.f k (x10 ++ x11)).bind fun bt362 => (if x14.size + x10.size ≤ 9223372036854775807 then (if (x14 ++ x10).size + x11.size ≤ 9223372036854775807 then ((num12_Int.f k ((x14 ++ x10) ++ x11)).bind fun bt364 => (if (x10 ++ x11).size + 1 ≤ 9223372036854775807 then ((num12_Int.f k ((x10 ++ x11) ++ (⟨#[95]⟩ : ByteArray))).bind fun bt366 => ((num12_Float.f k (x10 ++ x11)).bind fun bt368 => (if bt362.2 = true then ((targumref4_Text.f k (wrap64 (x0))).bind fun t374 => (if bt362.1.toList = t374.toList then (if (bt364.2 == (x9 == 10)) = true then (if bt364.2 = true then ((targumref4_Text.f k (wrap64 (x0))).bind fun t375 => ((targumref4_Norm.f k x3 t375).bind fun t376 => (if bt364.1.toList = t376.toList then (if bt366.2 = true then (some false) else (some (!bt368.2.2.2.2))) else (some false)))) else (if bt366.2 = true then (some false) else (some (!bt368.2.2.2.2)))) else (some false)) else (some false))) else (some false)))) else (none))) else (none)) else (none))) else (none)
end
def targumlaw8_Num12Bases.f (k : Nat) (a0 : Int) (a1 : Int) (a2 : Int) (a3 : Bool) : Option (Bool) := (targumlaw8_known.f k).bind fun t361 => (if t361 = true then (if (Int.tmod a1 3) = 0 then (targumlaw8_Num12Bases.j0 k a0 a2 a3 8 (⟨#[48, 111]⟩ : ByteArray)) else (if (Int.tmod a1 3) = 1 then (targumlaw8_Num12Bases.j0 k a0 a2 a3 16 (⟨#[48, 120]⟩ : ByteArray)) else (targumlaw8_Num12Bases.j0 k a0 a2 a3 10 (⟨#[]⟩ : ByteArray)))) else (some false))
theorem targumlaw8_Num12Bases.mono_l : ∀ k, (∀ y0 y1 y2 y3 y4, LeO (targumlaw8_Num12Bases.j0 k y0 y1 y2 y3 y4) (targumlaw8_Num12Bases.j0 (k + 1) y0 y1 y2 y3 y4)) ∧ (∀ y0 y1 y2 y3 y4 y5 y6, LeO (targumlaw8_Num12Bases.l0 k y0 y1 y2 y3 y4 y5 y6) (targumlaw8_Num12Bases.l0 (k + 1) y0 y1 y2 y3 y4 y5 y6)) ∧ (∀ y0 y1 y2 y3 y4 y5 y6, LeO (targumlaw8_Num12Bases.l1 k y0 y1 y2 y3 y4 y5 y6) (targumlaw8_Num12Bases.l1 (k + 1) y0 y1 y2 y3 y4 y5 y6)) ∧ (∀ y0 y1 y2 y3 y4 y5, LeO (targumlaw8_Num12Bases.j3 k y0 y1 y2 y3 y4 y5) (targumlaw8_Num12Bases.j3 (k + 1) y0 y1 y2 y3 y4 y5))
 | 0 => ⟨fun _ _ _ _ _ r h => by simp [targumlaw8_Num12Bases.j0] at h, fun _ _ _ _ _ _ _ r h => by simp [targumlaw8_Num12Bases.l0] at h, fun _ _ _ _ _ _ _ r h => by simp [targumlaw8_Num12Bases.l1] at h, fun _ _ _ _ _ _ r h => by simp [targumlaw8_Num12Bases.j3] at h⟩
 | k + 1 => by
  obtain ⟨ih0, ih1, ih2, ih3⟩ := targumlaw8_Num12Bases.mono_l k
  refine ⟨?_, ?_, ?_, ?_⟩
  ·intro y0 y1 y2 y3 y4
   unfold targumlaw8_Num12Bases.j0
   repeat' first
   | (with_reducible exact ih0 _ _ _ _ _)
   | (with_reducible exact ih1 _ _ _ _ _ _ _)
   | (with_reducible exact ih2 _ _ _ _ _ _ _)
   | (with_reducible exact ih3 _ _ _ _ _ _)
   | (with_reducible exact num12_Float.mono _ _)
   | (with_reducible exact num12_Int.mono _ _)
   | (with_reducible exact targumlaw8_known.mono _)
   | (with_reducible exact targumref4_Norm.mono _ _ _)
   | (with_reducible exact targumref4_Text.mono _ _)
   | (with_reducible exact LeO.refl _)
   | (with_reducible exact LeO.none _)
   | (with_reducible refine LeO.ite ?_ ?_)
   | (with_reducible refine LeO.bind ?_ (fun _ => ?_))
   | exact ih0 _ _ _ _ _
   | exact ih1 _ _ _ _ _ _ _
   | exact ih2 _ _ _ _ _ _ _
   | exact ih3 _ _ _ _ _ _
   | exact num12_Float.mono _ _
   | exact num12_Int.mono _ _
   | exact targumlaw8_known.mono _
   | exact targumref4_Norm.mono _ _ _
   | exact targumref4_Text.mono _ _
   | exact LeO.none _
   | refine LeO.ite ?_ ?_
   | refine LeO.bind ?_ (fun _ => ?_)
  ·intro y0 y1 y2 y3 y4 y5 y6
   unfold targumlaw8_Num12Bases.l0
   repeat' first
   | (with_reducible exact ih0 _ _ _ _ _)
   | (with_reducible exact ih1 _ _ _ _ _ _ _)
   | (with_reducible exact ih2 _ _ _ _ _ _ _)
   | (with_reducible exact ih3 _ _ _ _ _ _)
   | (with_reducible exact num12_Float.mono _ _)
   | (with_reducible exact num12_Int.mono _ _)
   | (with_reducible exact targumlaw8_known.mono _)
   | (with_reducible exact targumref4_Norm.mono _ _ _)
   | (with_reducible exact targumref4_Text.mono _ _)
   | (with_reducible exact LeO.refl _)
   | (with_reducible exact LeO.none _)
   | (with_reducible refine LeO.ite ?_ ?_)
   | (with_reducible refine LeO.bind ?_ (fun _ => ?_))
   | exact ih0 _ _ _ _ _
   | exact ih1 _ _ _ _ _ _ _
   | exact ih2 _ _ _ _ _ _ _
   | exact ih3 _ _ _ _ _ _
   | exact num12_Float.mono _ _
   | exact num12_Int.mono _ _
   | exact targumlaw8_known.mono _
   | exact targumref4_Norm.mono _ _ _
   | exact targumref4_Text.mono _ _
   | exact LeO.none _
   | refine LeO.ite ?_ ?_
   | refine LeO.bind ?_ (fun _ => ?_)
  ·intro y0 y1 y2 y3 y4 y5 y6
   unfold targumlaw8_Num12Bases.l1
   repeat' first
   | (with_reducible exact ih0 _ _ _ _ _)
   | (with_reducible exact ih1 _ _ _ _ _ _ _)
   | (with_reducible exact ih2 _ _ _ _ _ _ _)
   | (with_reducible exact ih3 _ _ _ _ _ _)
   | (with_reducible exact num12_Float.mono _ _)
   | (with_reducible exact num12_Int.mono _ _)
   | (with_reducible exact targumlaw8_known.mono _)
   | (with_reducible exact targumref4_Norm.mono _ _ _)
   | (with_reducible exact targumref4_Text.mono _ _)
   | (with_reducible exact LeO.refl _)
   | (with_reducible exact LeO.none _)
   | (with_reducible refine LeO.ite ?_ ?_)
   | (with_reducible refine LeO.bind ?_ (fun _ => ?_))
   | exact ih0 _ _ _ _ _
   | exact ih1 _ _ _ _ _ _ _
   | exact ih2 _ _ _ _ _ _ _
   | exact ih3 _ _ _ _ _ _
   | exact num12_Float.mono _ _
   | exact num12_Int.mono _ _
   | exact targumlaw8_known.mono _
   | exact targumref4_Norm.mono _ _ _
   | exact targumref4_Text.mono _ _
   | exact LeO.none _
   | refine LeO.ite ?_ ?_
   | refine LeO.bind ?_ (fun _ => ?_)
  ·intro y0 y1 y2 y3 y4 y5
   unfold targumlaw8_Num12Bases.j3
   repeat' first
   | (with_reducible exact ih0 _ _ _ _ _)
   | (with_reducible exact ih1 _ _ _ _ _ _ _)
   | (with_reducible exact ih2 _ _ _ _ _ _ _)
   | (with_reducible exact ih3 _ _ _ _ _ _)
   | (with_reducible exact num12_Float.mono _ _)
   | (with_reducible exact num12_Int.mono _ _)
   | (with_reducible exact targumlaw8_known.mono _)
   | (with_reducible exact targumref4_Norm.mono _ _ _)
   | (with_reducible exact targumref4_Text.mono _ _)
   | (with_reducible exact LeO.refl _)
   | (with_reducible exact LeO.none _)
   | (with_reducible refine LeO.ite ?_ ?_)
   | (with_reducible refine LeO.bind ?_ (fun _ => ?_))
   | exact ih0 _ _ _ _ _
   | exact ih1 _ _ _ _ _ _ _
   | exact ih2 _ _ _ _ _ _ _
   | exact ih3 _ _ _ _ _ _
   | exact num12_Float.mono _ _
   | exact num12_Int.mono _ _
   | exact targumlaw8_known.mono _
   | exact targumref4_Norm.mono _ _ _
   | exact targumref4_Text.mono _ _
   | exact LeO.none _
   | refine LeO.ite ?_ ?_
   | refine LeO.bind ?_ (fun _ => ?_)
theorem targumlaw8_Num12Bases.mono : ∀ a0 a1 a2 a3 k, LeO (targumlaw8_Num12Bases.f k a0 a1 a2 a3) (targumlaw8_Num12Bases.f (k + 1) a0 a1 a2 a3) := by
 intro a0 a1 a2 a3 k
 obtain ⟨ih0, ih1, ih2, ih3⟩ := targumlaw8_Num12Bases.mono_l k
 unfold targumlaw8_Num12Bases.f
 repeat' first
   | (with_reducible exact ih0 _ _ _ _ _)
   | (with_reducible exact ih1 _ _ _ _ _ _ _)
   | (with_reducible exact ih2 _ _ _ _ _ _ _)
   | (with_reducible exact ih3 _ _ _ _ _ _)
   | (with_reducible exact num12_Float.mono _ _)
   | (with_reducible exact num12_Int.mono _ _)
   | (with_reducible exact targumlaw8_known.mono _)
   | (with_reducible exact targumref4_Norm.mono _ _ _)
   | (with_reducible exact targumref4_Text.mono _ _)
   | (with_reducible exact LeO.refl _)
   | (with_reducible exact LeO.none _)
   | (with_reducible refine LeO.ite ?_ ?_)
   | (with_reducible refine LeO.bind ?_ (fun _ => ?_))
   | exact ih0 _ _ _ _ _
   | exact ih1 _ _ _ _ _ _ _
   | exact ih2 _ _ _ _ _ _ _
   | exact ih3 _ _ _ _ _ _
   | exact num12_Float.mono _ _
   | exact num12_Int.mono _ _
   | exact targumlaw8_known.mono _
   | exact targumref4_Norm.mono _ _ _
   | exact targumref4_Text.mono _ _
   | exact LeO.none _
   | refine LeO.ite ?_ ?_
   | refine LeO.bind ?_ (fun _ => ?_)
set_option maxHeartbeats 40000000 in
set_option maxRecDepth 100000 in
theorem targumlaw8_Num12Bases.calls (k : Nat) (a0 : Int) (a1 : Int) (a2 : Int) (a3 : Bool) (r : Bool) (w : World) (hG : Go.Proofs.YtbjlcipamdgnjaaDoor.Room.PowTab w) (h : targumlaw8_Num12Bases.f k a0 a1 a2 a3 = some r) :
  Calls Tryd.prog 5 #[.int .u32 a0, .int .u8 a1, .int .u8 a2, .bool a3] w fun e w' => e = .returned (.bool r) ∧ Below w.heap.size w w' := by
 have hu28 := Tryd.underlying28
 have HG := Aside0.mk hG
 clear hG
 have HB := Aside0.mk (Below.refl w.heap.size w)
 have H : ((targumlaw8_known.f k).bind fun t361 => (if t361 = true then (if (Int.tmod a1 3) = 0 then (targumlaw8_Num12Bases.j0 k a0 a2 a3 8 (⟨#[48, 111]⟩ : ByteArray)) else (if (Int.tmod a1 3) = 1 then (targumlaw8_Num12Bases.j0 k a0 a2 a3 16 (⟨#[48, 120]⟩ : ByteArray)) else (targumlaw8_Num12Bases.j0 k a0 a2 a3 10 (⟨#[]⟩ : ByteArray)))) else (some false))) = some r := h
 clear h
 replace H := Option.bind_eq_some_iff.mp H
 obtain ⟨t361, A50, H⟩ := H
 replace H : (if t361 = true then (if (Int.tmod a1 3) = 0 then (targumlaw8_Num12Bases.j0 k a0 a2 a3 8 (⟨#[48, 111]⟩ : ByteArray)) else (if (Int.tmod a1 3) = 1 then (targumlaw8_Num12Bases.j0 k a0 a2 a3 16 (⟨#[48, 120]⟩ : ByteArray)) else (targumlaw8_Num12Bases.j0 k a0 a2 a3 10 (⟨#[]⟩ : ByteArray)))) else (some false)) = some r := H
 have A5 := Aside0.mk A50
 clear A50
 by_cases c6 : t361 = true
 ·subst c6
  have H1 : (if (Int.tmod a1 3) = 0 then (targumlaw8_Num12Bases.j0 k a0 a2 a3 8 (⟨#[48, 111]⟩ : ByteArray)) else (if (Int.tmod a1 3) = 1 then (targumlaw8_Num12Bases.j0 k a0 a2 a3 16 (⟨#[48, 120]⟩ : ByteArray)) else (targumlaw8_Num12Bases.j0 k a0 a2 a3 10 (⟨#[]⟩ : ByteArray)))) = some r := by rw [if_pos rfl] at H; exact H
  clear H
  have H := H1
  clear H1
  have HC7 := Aside0.mk H
  clear H
  go_enter Tryd.func5, Tryd.ntmps5
  go_upto_block 0 with (first | (go_at_call 8; (try (rename_i hK_; simp only [List.append] at hK_)); (with_reducible refine (targumlaw8_known.calls k  true _ ?side1 A5.out).mono ?_); (case side1 => exact Go.Proofs.YtbjlcipamdgnjaaDoor.Room.PowTab_below HG.out bl); rintro e w8 ⟨rfl, hb⟩; have n0_ := Aside0.mk (below_step bl hb); clear HB; have HB := n0_; clear n0_; (try clear hb); (try clear hb2); (try clear hk); (try clear hi)))
  repeat (go_quiet (first | (go_at_call 8; (try (rename_i hK_; simp only [List.append] at hK_)); (with_reducible refine (targumlaw8_known.calls k  true _ ?side1 A5.out).mono ?_); (case side1 => exact Go.Proofs.YtbjlcipamdgnjaaDoor.Room.PowTab_below HG.out bl); rintro e w8 ⟨rfl, hb⟩; have n0_ := Aside0.mk (below_step bl hb); clear HB; have HB := n0_; clear n0_; (try clear hb); (try clear hb2); (try clear hk); (try clear hi))); go_upto_block 0 with (first | (go_at_call 8; (try (rename_i hK_; simp only [List.append] at hK_)); (with_reducible refine (targumlaw8_known.calls k  true _ ?side1 A5.out).mono ?_); (case side1 => exact Go.Proofs.YtbjlcipamdgnjaaDoor.Room.PowTab_below HG.out bl); rintro e w8 ⟨rfl, hb⟩; have n0_ := Aside0.mk (below_step bl hb); clear HB; have HB := n0_; clear n0_; (try clear hb); (try clear hb2); (try clear hk); (try clear hi))))
  (try simp only [Act.put, List.setIfInBounds_toArray, List.set_cons_zero, List.set_cons_succ])
  go_cut [9, 10] (fun v9 v10 wc => ∃ (kq : Nat) (x9_6 : Int) (x10_6 : ByteArray), v9 = .int .i64 x9_6 ∧ v10 = .string x10_6 ∧ Aside0 (targumlaw8_Num12Bases.j0 kq a0 a2 a3 x9_6 x10_6 = some r) ∧ Aside0 (kq ≤ k) ∧ Aside0 (Below w.heap.size w wc))
  case first =>
   have H := HC7.out
   clear HC7
   by_cases c9 : (Int.tmod a1 3) = 0
   ·rw [if_pos c9] at H
    have c9b0 : ((Int.tmod a1 3) == 0) = true := beq_iff_eq.mpr c9
    have c9b1 : ((Int.tmod a1 3) != 0) = false := bne_eq_false_iff_eq.mpr c9
    clear c9
    (first | rw [c9b0] | (simp only [i64_w, i32_w]; rw [c9b0]) | skip)
    have H' := Aside0.mk H
    clear H
    go_wp2
    repeat (go_quiet (fail); try go_wp2)
    go_meet
    case rel => exact ⟨_, (8), ((⟨#[48, 111]⟩ : ByteArray)), (by first | rfl | (simp; done) | (simp [*]; done) | (simp [wrap64]; done)), (by first | rfl | (simp; done) | (simp [*]; done) | (simp [wrap64]; done)), H', ⟨by first | omega | exact Nat.le_refl _⟩, ⟨bl⟩⟩
   ·rw [if_neg c9] at H
    have c9b0 : ((Int.tmod a1 3) == 0) = false := beq_eq_false_iff_ne.mpr c9
    have c9b1 : ((Int.tmod a1 3) != 0) = true := bne_iff_ne.mpr c9
    (first | rw [c9b0] | (simp only [i64_w, i32_w]; rw [c9b0]) | skip)
    by_cases c10 : (Int.tmod a1 3) = 1
    ·rw [if_pos c10] at H
     have c10b0 : ((Int.tmod a1 3) == 1) = true := beq_iff_eq.mpr c10
     have c10b1 : ((Int.tmod a1 3) != 1) = false := bne_eq_false_iff_eq.mpr c10
     clear c10
     have H' := Aside0.mk H
     clear H
     go_wp2
     repeat (go_quiet (fail); try go_wp2)
     go_meet
     case rel => exact ⟨_, (16), ((⟨#[48, 120]⟩ : ByteArray)), (by first | rfl | (simp; done) | (simp [*]; done) | (simp [wrap64]; done)), (by first | rfl | (simp; done) | (simp [*]; done) | (simp [wrap64]; done)), H', ⟨by first | omega | exact Nat.le_refl _⟩, ⟨bl⟩⟩
    ·rw [if_neg c10] at H
     have c10b0 : ((Int.tmod a1 3) == 1) = false := beq_eq_false_iff_ne.mpr c10
     have c10b1 : ((Int.tmod a1 3) != 1) = true := bne_iff_ne.mpr c10
     have H' := Aside0.mk H
     clear H
     go_wp2
     repeat (go_quiet (fail); try go_wp2)
     go_meet
     case rel => exact ⟨_, (10), ((⟨#[]⟩ : ByteArray)), (by first | rfl | (simp; done) | (simp [*]; done) | (simp [wrap64]; done)), (by first | rfl | (simp; done) | (simp [*]; done) | (simp [wrap64]; done)), H', ⟨by first | omega | exact Nat.le_refl _⟩, ⟨bl⟩⟩
  case rest =>
   clear HC7
   try clear c1; try clear p2; try clear c5; try clear c6; try clear c9; try clear c9b0; try clear c9b1; try clear c10; try clear c10b0; try clear c10b1
   obtain ⟨kq, x9_6, x10_6, rfl, rfl, HA, HJ6, HB⟩ := hcut
   cases kq with
   | zero => exact absurd HA.out (by simp [targumlaw8_Num12Bases.j0])
   | succ kj6 =>
    have H := HA.out
    clear HA
    simp only [targumlaw8_Num12Bases.j0] at H
    have H' := Aside0.mk H
    clear H
    go_wp2
    repeat (go_quiet (fail); try go_wp2)
    go_loopg [11, 12] kj6 (fun kq v11 v12 w' => ∃ (x11_2 : ByteArray) (x12_2 : Int), v11 = .string x11_2 ∧ v12 = .int .i64 x12_2 ∧ Aside0 (targumlaw8_Num12Bases.l0 kq a0 a2 a3 x9_6 x10_6 x11_2 x12_2 = some r) ∧ Aside0 (kq ≤ kj6) ∧ Aside0 (Below w.heap.size w w'))
    case atStart => exact ⟨((⟨#[]⟩ : ByteArray)), (wrap64 (a0)), (by first | rfl | (simp; done) | (simp [*]; done) | (simp [wrap64]; done)), (by first | rfl | (simp; done) | (simp [*]; done) | (simp [wrap64]; done)), H', ⟨Nat.le_refl _⟩, ⟨bl⟩⟩
    case round =>
     clear H'
     try clear c1; try clear p2; try clear c5; try clear c6; try clear p6; try clear c9; try clear c9b0; try clear c9b1; try clear c10; try clear c10b0; try clear c10b1; try clear p2
     obtain ⟨x11_2, x12_2, rfl, rfl, HA, HK2, HB⟩ := hrel
     cases gk with
     | zero => exact absurd HA.out (by simp [targumlaw8_Num12Bases.l0])
     | succ k2 =>
      have H := HA.out
      clear HA
      simp only [targumlaw8_Num12Bases.l0] at H
      by_cases c11 : x12_2 > 0
      ·rw [if_pos c11] at H
       have c11b0 : decide (0 < x12_2) = true := decide_eq_true c11
       clear c11
       by_cases c12 : x9_6 = 0
       ·rw [if_pos c12] at H
        exact absurd H (by simp)
       ·rw [if_neg c12] at H
        have c12b0 : (x9_6 == 0) = false := beq_eq_false_iff_ne.mpr c12
        have c12b1 : (x9_6 != 0) = true := bne_iff_ne.mpr c12
        obtain ⟨ji13, hji13⟩ : ∃ j_ : Int, (Int.tmod x12_2 x9_6) = j_ := ⟨_, rfl⟩
        replace H : (if 0 ≤ (ji13) then (if (ji13) ≤ (wrap64 ((ji13) + 1)) then (if (wrap64 ((ji13) + 1)) ≤ 16 then (if ((⟨#[48, 49, 50, 51, 52, 53, 54, 55, 56, 57, 97, 98, 99, 100, 101, 102]⟩ : ByteArray).extract ((ji13) : Int).toNat ((wrap64 ((ji13) + 1)) : Int).toNat).size + x11_2.size ≤ 9223372036854775807 then (targumlaw8_Num12Bases.l0 k2 a0 a2 a3 x9_6 x10_6 (((⟨#[48, 49, 50, 51, 52, 53, 54, 55, 56, 57, 97, 98, 99, 100, 101, 102]⟩ : ByteArray).extract ((ji13) : Int).toNat ((wrap64 ((ji13) + 1)) : Int).toNat) ++ x11_2) (wrap64 (Int.tdiv x12_2 x9_6))) else (none)) else (none)) else (none)) else (none)) = some r := by first | (rw [hji13] at H; exact H) | (simp only [hji13] at H ⊢; exact H)
        by_cases c14 : 0 ≤ (ji13)
        ·rw [if_pos c14] at H
         have c14b0 := eq_true c14
         have c14b1 : decide (0 ≤ (ji13)) = true := decide_eq_true c14
         clear c14
         by_cases c15 : (ji13) ≤ (wrap64 ((ji13) + 1))
         ·rw [if_pos c15] at H
          have c15b0 := eq_true c15
          have c15b1 : decide ((ji13) ≤ (wrap64 ((ji13) + 1))) = true := decide_eq_true c15
          by_cases c16 : (wrap64 ((ji13) + 1)) ≤ 16
          ·rw [if_pos c16] at H
           have c16b0 := eq_true c16
           have c16b1 : decide ((wrap64 ((ji13) + 1)) ≤ 16) = true := decide_eq_true c16
           by_cases c17 : ((⟨#[48, 49, 50, 51, 52, 53, 54, 55, 56, 57, 97, 98, 99, 100, 101, 102]⟩ : ByteArray).extract ((ji13) : Int).toNat ((wrap64 ((ji13) + 1)) : Int).toNat).size + x11_2.size ≤ 9223372036854775807
           ·rw [if_pos c17] at H
            have c17b0 := eq_true c17
            have c17b1 : decide (((⟨#[48, 49, 50, 51, 52, 53, 54, 55, 56, 57, 97, 98, 99, 100, 101, 102]⟩ : ByteArray).extract ((ji13) : Int).toNat ((wrap64 ((ji13) + 1)) : Int).toNat).size + x11_2.size ≤ 9223372036854775807) = true := decide_eq_true c17
            try have c17b2 : (9223372036854775807 < ((⟨#[48, 49, 50, 51, 52, 53, 54, 55, 56, 57, 97, 98, 99, 100, 101, 102]⟩ : ByteArray).extract ((ji13) : Int).toNat ((wrap64 ((ji13) + 1)) : Int).toNat).size + x11_2.size) = False := eq_false (Nat.not_lt.2 c17)
            have H' := Aside0.mk H
            clear H
            go_wp2
            repeat (go_quiet (fail); try go_wp2)
            go_roundg k2
            case measure => have := HJ6.out; have := HK2.out; omega
            case rel => exact ⟨(((⟨#[48, 49, 50, 51, 52, 53, 54, 55, 56, 57, 97, 98, 99, 100, 101, 102]⟩ : ByteArray).extract ((ji13) : Int).toNat ((wrap64 ((ji13) + 1)) : Int).toNat) ++ x11_2), (wrap64 (Int.tdiv x12_2 x9_6)), (by first | rfl | (simp; done) | (simp only [← hji13] <;> (first | rfl | simp)) | (simp [*]; done)), (by first | rfl | (simp; done) | (simp [*]; done) | (simp [wrap64]; done)), H', ⟨by have := HJ6.out; have := HK2.out; omega⟩, ⟨bl⟩⟩
           ·rw [if_neg c17] at H
            exact absurd H (by simp)
          ·rw [if_neg c16] at H
           exact absurd H (by simp)
         ·rw [if_neg c15] at H
          exact absurd H (by simp)
        ·rw [if_neg c14] at H
         exact absurd H (by simp)
      ·rw [if_neg c11] at H
       have c11b0 : decide (0 < x12_2) = false := decide_eq_false c11
       clear c11
       by_cases c18 : x11_2.toList = ([] : List UInt8)
       ·rw [if_pos c18] at H
        have c18b0 : (x11_2.toList == ([] : List UInt8)) = true := beq_iff_eq.mpr c18
        have c18b1 : (x11_2.toList != ([] : List UInt8)) = false := bne_eq_false_iff_eq.mpr c18
        clear c18
        by_cases c19 : x9_6 = 0
        ·rw [if_pos c19] at H
         exact absurd H (by simp)
        ·rw [if_neg c19] at H
         have c19b0 : (x9_6 == 0) = false := beq_eq_false_iff_ne.mpr c19
         have c19b1 : (x9_6 != 0) = true := bne_iff_ne.mpr c19
         obtain ⟨ji20, hji20⟩ : ∃ j_ : Int, (Int.tmod x12_2 x9_6) = j_ := ⟨_, rfl⟩
         replace H : (if 0 ≤ (ji20) then (if (ji20) ≤ (wrap64 ((ji20) + 1)) then (if (wrap64 ((ji20) + 1)) ≤ 16 then (if ((⟨#[48, 49, 50, 51, 52, 53, 54, 55, 56, 57, 97, 98, 99, 100, 101, 102]⟩ : ByteArray).extract ((ji20) : Int).toNat ((wrap64 ((ji20) + 1)) : Int).toNat).size + x11_2.size ≤ 9223372036854775807 then (targumlaw8_Num12Bases.l0 k2 a0 a2 a3 x9_6 x10_6 (((⟨#[48, 49, 50, 51, 52, 53, 54, 55, 56, 57, 97, 98, 99, 100, 101, 102]⟩ : ByteArray).extract ((ji20) : Int).toNat ((wrap64 ((ji20) + 1)) : Int).toNat) ++ x11_2) (wrap64 (Int.tdiv x12_2 x9_6))) else (none)) else (none)) else (none)) else (none)) = some r := by first | (rw [hji20] at H; exact H) | (simp only [hji20] at H ⊢; exact H)
         by_cases c21 : 0 ≤ (ji20)
         ·rw [if_pos c21] at H
          have c21b0 := eq_true c21
          have c21b1 : decide (0 ≤ (ji20)) = true := decide_eq_true c21
          clear c21
          by_cases c22 : (ji20) ≤ (wrap64 ((ji20) + 1))
          ·rw [if_pos c22] at H
           have c22b0 := eq_true c22
           have c22b1 : decide ((ji20) ≤ (wrap64 ((ji20) + 1))) = true := decide_eq_true c22
           by_cases c23 : (wrap64 ((ji20) + 1)) ≤ 16
           ·rw [if_pos c23] at H
            have c23b0 := eq_true c23
            have c23b1 : decide ((wrap64 ((ji20) + 1)) ≤ 16) = true := decide_eq_true c23
            by_cases c24 : ((⟨#[48, 49, 50, 51, 52, 53, 54, 55, 56, 57, 97, 98, 99, 100, 101, 102]⟩ : ByteArray).extract ((ji20) : Int).toNat ((wrap64 ((ji20) + 1)) : Int).toNat).size + x11_2.size ≤ 9223372036854775807
            ·rw [if_pos c24] at H
             have c24b0 := eq_true c24
             have c24b1 : decide (((⟨#[48, 49, 50, 51, 52, 53, 54, 55, 56, 57, 97, 98, 99, 100, 101, 102]⟩ : ByteArray).extract ((ji20) : Int).toNat ((wrap64 ((ji20) + 1)) : Int).toNat).size + x11_2.size ≤ 9223372036854775807) = true := decide_eq_true c24
             try have c24b2 : (9223372036854775807 < ((⟨#[48, 49, 50, 51, 52, 53, 54, 55, 56, 57, 97, 98, 99, 100, 101, 102]⟩ : ByteArray).extract ((ji20) : Int).toNat ((wrap64 ((ji20) + 1)) : Int).toNat).size + x11_2.size) = False := eq_false (Nat.not_lt.2 c24)
             have H' := Aside0.mk H
             clear H
             go_wp2
             repeat (go_quiet (fail); try go_wp2)
             go_roundg k2
             case measure => have := HJ6.out; have := HK2.out; omega
             case rel => exact ⟨(((⟨#[48, 49, 50, 51, 52, 53, 54, 55, 56, 57, 97, 98, 99, 100, 101, 102]⟩ : ByteArray).extract ((ji20) : Int).toNat ((wrap64 ((ji20) + 1)) : Int).toNat) ++ x11_2), (wrap64 (Int.tdiv x12_2 x9_6)), (by first | rfl | (simp; done) | (simp only [← hji20] <;> (first | rfl | simp)) | (simp [*]; done)), (by first | rfl | (simp; done) | (simp [*]; done) | (simp [wrap64]; done)), H', ⟨by have := HJ6.out; have := HK2.out; omega⟩, ⟨bl⟩⟩
            ·rw [if_neg c24] at H
             exact absurd H (by simp)
           ·rw [if_neg c23] at H
            exact absurd H (by simp)
          ·rw [if_neg c22] at H
           exact absurd H (by simp)
         ·rw [if_neg c21] at H
          exact absurd H (by simp)
       ·rw [if_neg c18] at H
        have c18b0 : (x11_2.toList == ([] : List UInt8)) = false := beq_eq_false_iff_ne.mpr c18
        have c18b1 : (x11_2.toList != ([] : List UInt8)) = true := bne_iff_ne.mpr c18
        have H' := Aside0.mk H
        clear H
        go_wp2
        repeat (go_quiet (fail); try go_wp2)
        go_loopg [11, 13] k2 (fun kq v11 v13 w' => ∃ (x11_3 : ByteArray) (x13_3 : Int), v11 = .string x11_3 ∧ v13 = .int .i64 x13_3 ∧ Aside0 (targumlaw8_Num12Bases.l1 kq a0 a2 a3 x9_6 x10_6 x11_3 x13_3 = some r) ∧ Aside0 (kq ≤ k2) ∧ Aside0 (Below w.heap.size w w'))
        case atStart => exact ⟨(x11_2), (0), (by first | rfl | (simp; done) | (simp [*]; done) | (simp [wrap64]; done)), (by first | rfl | (simp; done) | (simp [*]; done) | (simp [wrap64]; done)), H', ⟨Nat.le_refl _⟩, ⟨bl⟩⟩
        case round =>
         clear H'
         try clear c1; try clear c2; try clear p2; try clear c5; try clear c6; try clear p6; try clear c9; try clear c9b0; try clear c9b1; try clear c10; try clear c10b0; try clear c10b1; try clear c11; try clear c11b0; try clear c12; try clear c12b0; try clear c12b1; try clear c14; try clear c14b0; try clear c14b1; try clear c15; try clear c15b0; try clear c15b1; try clear c16; try clear c16b0; try clear c16b1; try clear c17; try clear c17b0; try clear c17b1; try clear c17b2; try clear c18; try clear c18b0; try clear c18b1; try clear c19; try clear c19b0; try clear c19b1; try clear c21; try clear c21b0; try clear c21b1; try clear c22; try clear c22b0; try clear c22b1; try clear c23; try clear c23b0; try clear c23b1; try clear c24; try clear c24b0; try clear c24b1; try clear c24b2; try clear p2; try clear p6
         obtain ⟨x11_3, x13_3, rfl, rfl, HA, HK3, HB⟩ := hrel
         cases gk with
         | zero => exact absurd HA.out (by simp [targumlaw8_Num12Bases.l1])
         | succ k3 =>
          have H := HA.out
          clear HA
          simp only [targumlaw8_Num12Bases.l1] at H
          by_cases c25 : x13_3 < (wrap64 (Int.tmod a2 9))
          ·rw [if_pos c25] at H
           have c25b0 : decide (x13_3 < (wrap64 (Int.tmod a2 9))) = true := decide_eq_true c25
           clear c25
           by_cases c26 : 1 + x11_3.size ≤ 9223372036854775807
           ·rw [if_pos c26] at H
            have c26b0 := eq_true c26
            have c26b1 : decide (1 + x11_3.size ≤ 9223372036854775807) = true := decide_eq_true c26
            try have c26b2 : (9223372036854775807 < 1 + x11_3.size) = False := eq_false (Nat.not_lt.2 c26)
            have H' := Aside0.mk H
            clear H
            go_wp2
            repeat (go_quiet (fail); try go_wp2)
            go_roundg k3
            case measure => have := HJ6.out; have := HK2.out; have := HK3.out; omega
            case rel => exact ⟨((⟨#[48]⟩ : ByteArray) ++ x11_3), (wrap64 (x13_3 + 1)), (by first | rfl | (simp; done) | (simp [*]; done) | (simp [wrap64]; done)), (by first | rfl | (simp; done) | (simp [*]; done) | (simp [wrap64]; done)), H', ⟨by have := HJ6.out; have := HK2.out; have := HK3.out; omega⟩, ⟨bl⟩⟩
           ·rw [if_neg c26] at H
            exact absurd H (by simp)
          ·rw [if_neg c25] at H
           have c25b0 : decide (x13_3 < (wrap64 (Int.tmod a2 9))) = false := decide_eq_false c25
           clear c25
           have HC27 := Aside0.mk H
           clear H
           go_upto_if 61 with (fail)
           repeat (go_quiet (fail); go_upto_if 61 with (fail))
           go_cut [14] (fun v14 wc => ∃ (kq : Nat) (x14_26 : ByteArray), v14 = .string x14_26 ∧ Aside0 (targumlaw8_Num12Bases.j3 kq a0 a3 x9_6 x10_6 x11_3 x14_26 = some r) ∧ Aside0 (kq ≤ k3) ∧ Aside0 (Below w.heap.size w wc))
           case first =>
            have H := HC27.out
            clear HC27
            by_cases c28 : a3 = true
            ·subst c28
             have H1 : (targumlaw8_Num12Bases.j3 k3 a0 true x9_6 x10_6 x11_3 (⟨#[45]⟩ : ByteArray)) = some r := by rw [if_pos rfl] at H; exact H
             clear H
             have H := H1
             clear H1
             have H' := Aside0.mk H
             clear H
             go_wp2
             repeat (go_quiet (fail); try go_wp2)
             go_meet
             case rel => exact ⟨_, ((⟨#[45]⟩ : ByteArray)), (by first | rfl | (simp; done) | (simp [*]; done) | (simp [wrap64]; done)), H', ⟨by have := HJ6.out; have := HK2.out; have := HK3.out; first | omega | exact Nat.le_refl _⟩, ⟨bl⟩⟩
            ·replace c28 := Bool.eq_false_iff.mpr c28
             subst c28
             have H1 : (targumlaw8_Num12Bases.j3 k3 a0 false x9_6 x10_6 x11_3 (⟨#[43]⟩ : ByteArray)) = some r := by rw [if_neg (show ¬ (false = true) by decide)] at H; exact H
             clear H
             have H := H1
             clear H1
             have H' := Aside0.mk H
             clear H
             go_wp2
             repeat (go_quiet (fail); try go_wp2)
             go_meet
             case rel => exact ⟨_, ((⟨#[43]⟩ : ByteArray)), (by first | rfl | (simp; done) | (simp [*]; done) | (simp [wrap64]; done)), H', ⟨by have := HJ6.out; have := HK2.out; have := HK3.out; first | omega | exact Nat.le_refl _⟩, ⟨bl⟩⟩
           case rest =>
            clear HC27
            try clear c1; try clear c2; try clear p2; try clear c5; try clear c6; try clear p6; try clear c9; try clear c9b0; try clear c9b1; try clear c10; try clear c10b0; try clear c10b1; try clear c11; try clear c11b0; try clear c12; try clear c12b0; try clear c12b1; try clear c14; try clear c14b0; try clear c14b1; try clear c15; try clear c15b0; try clear c15b1; try clear c16; try clear c16b0; try clear c16b1; try clear c17; try clear c17b0; try clear c17b1; try clear c17b2; try clear c18; try clear c18b0; try clear c18b1; try clear c19; try clear c19b0; try clear c19b1; try clear c21; try clear c21b0; try clear c21b1; try clear c22; try clear c22b0; try clear c22b1; try clear c23; try clear c23b0; try clear c23b1; try clear c24; try clear c24b0; try clear c24b1; try clear c24b2; try clear c25; try clear c25b0; try clear c26; try clear c26b0; try clear c26b1; try clear c26b2; try clear c28; try clear p2; try clear p6
            obtain ⟨kq, x14_26, rfl, HA, HJ26, HB⟩ := hcut
            cases kq with
            | zero => exact absurd HA.out (by simp [targumlaw8_Num12Bases.j3])
            | succ kj26 =>
             have H := HA.out
             clear HA
             simp only [targumlaw8_Num12Bases.j3] at H
             by_cases c29 : x10_6.size + x11_3.size ≤ 9223372036854775807
             ·rw [if_pos c29] at H
              have c29b0 := eq_true c29
              have c29b1 : decide (x10_6.size + x11_3.size ≤ 9223372036854775807) = true := decide_eq_true c29
              try have c29b2 : (9223372036854775807 < x10_6.size + x11_3.size) = False := eq_false (Nat.not_lt.2 c29)
              replace H := Option.bind_eq_some_iff.mp H
              obtain ⟨⟨t362, t363⟩, A300, H⟩ := H
              replace H : (if x14_26.size + x10_6.size ≤ 9223372036854775807 then (if (x14_26 ++ x10_6).size + x11_3.size ≤ 9223372036854775807 then ((num12_Int.f kj26 ((x14_26 ++ x10_6) ++ x11_3)).bind fun bt364 => (if (x10_6 ++ x11_3).size + 1 ≤ 9223372036854775807 then ((num12_Int.f kj26 ((x10_6 ++ x11_3) ++ (⟨#[95]⟩ : ByteArray))).bind fun bt366 => ((num12_Float.f kj26 (x10_6 ++ x11_3)).bind fun bt368 => (if t363 = true then ((targumref4_Text.f kj26 (wrap64 (a0))).bind fun t374 => (if t362.toList = t374.toList then (if (bt364.2 == (x9_6 == 10)) = true then (if bt364.2 = true then ((targumref4_Text.f kj26 (wrap64 (a0))).bind fun t375 => ((targumref4_Norm.f kj26 a3 t375).bind fun t376 => (if bt364.1.toList = t376.toList then (if bt366.2 = true then (some false) else (some (!bt368.2.2.2.2))) else (some false)))) else (if bt366.2 = true then (some false) else (some (!bt368.2.2.2.2)))) else (some false)) else (some false))) else (some false)))) else (none))) else (none)) else (none)) = some r := H
              have A30 := Aside0.mk A300
              clear A300
              by_cases c31 : x14_26.size + x10_6.size ≤ 9223372036854775807
              ·rw [if_pos c31] at H
               have c31b0 := eq_true c31
               have c31b1 : decide (x14_26.size + x10_6.size ≤ 9223372036854775807) = true := decide_eq_true c31
               try have c31b2 : (9223372036854775807 < x14_26.size + x10_6.size) = False := eq_false (Nat.not_lt.2 c31)
               by_cases c32 : (x14_26 ++ x10_6).size + x11_3.size ≤ 9223372036854775807
               ·rw [if_pos c32] at H
                have c32b0 := eq_true c32
                have c32b1 : decide ((x14_26 ++ x10_6).size + x11_3.size ≤ 9223372036854775807) = true := decide_eq_true c32
                try have c32b2 : (9223372036854775807 < (x14_26 ++ x10_6).size + x11_3.size) = False := eq_false (Nat.not_lt.2 c32)
                try have c32b3 : (9223372036854775807 < x14_26.size + x10_6.size + x11_3.size) = False := eq_false (Nat.not_lt.2 (by have z_ := c32; simp only [ByteArray.size_append, ByteArray.size_extract, Nat.min_self] at z_; exact z_))
                replace H := Option.bind_eq_some_iff.mp H
                obtain ⟨⟨t364, t365⟩, A330, H⟩ := H
                replace H : (if (x10_6 ++ x11_3).size + 1 ≤ 9223372036854775807 then ((num12_Int.f kj26 ((x10_6 ++ x11_3) ++ (⟨#[95]⟩ : ByteArray))).bind fun bt366 => ((num12_Float.f kj26 (x10_6 ++ x11_3)).bind fun bt368 => (if t363 = true then ((targumref4_Text.f kj26 (wrap64 (a0))).bind fun t374 => (if t362.toList = t374.toList then (if (t365 == (x9_6 == 10)) = true then (if t365 = true then ((targumref4_Text.f kj26 (wrap64 (a0))).bind fun t375 => ((targumref4_Norm.f kj26 a3 t375).bind fun t376 => (if t364.toList = t376.toList then (if bt366.2 = true then (some false) else (some (!bt368.2.2.2.2))) else (some false)))) else (if bt366.2 = true then (some false) else (some (!bt368.2.2.2.2)))) else (some false)) else (some false))) else (some false)))) else (none)) = some r := H
                have A33 := Aside0.mk A330
                clear A330
                by_cases c34 : (x10_6 ++ x11_3).size + 1 ≤ 9223372036854775807
                ·rw [if_pos c34] at H
                 have c34b0 := eq_true c34
                 have c34b1 : decide ((x10_6 ++ x11_3).size + 1 ≤ 9223372036854775807) = true := decide_eq_true c34
                 try have c34b2 : (9223372036854775807 < (x10_6 ++ x11_3).size + 1) = False := eq_false (Nat.not_lt.2 c34)
                 try have c34b3 : (9223372036854775807 < x10_6.size + x11_3.size + 1) = False := eq_false (Nat.not_lt.2 (by have z_ := c34; simp only [ByteArray.size_append, ByteArray.size_extract, Nat.min_self] at z_; exact z_))
                 replace H := Option.bind_eq_some_iff.mp H
                 obtain ⟨⟨t366, t367⟩, A350, H⟩ := H
                 replace H : ((num12_Float.f kj26 (x10_6 ++ x11_3)).bind fun bt368 => (if t363 = true then ((targumref4_Text.f kj26 (wrap64 (a0))).bind fun t374 => (if t362.toList = t374.toList then (if (t365 == (x9_6 == 10)) = true then (if t365 = true then ((targumref4_Text.f kj26 (wrap64 (a0))).bind fun t375 => ((targumref4_Norm.f kj26 a3 t375).bind fun t376 => (if t364.toList = t376.toList then (if t367 = true then (some false) else (some (!bt368.2.2.2.2))) else (some false)))) else (if t367 = true then (some false) else (some (!bt368.2.2.2.2)))) else (some false)) else (some false))) else (some false))) = some r := H
                 have A35 := Aside0.mk A350
                 clear A350
                 replace H := Option.bind_eq_some_iff.mp H
                 obtain ⟨⟨t368, t369, t370, t371, t372⟩, A360, H⟩ := H
                 replace H : (if t363 = true then ((targumref4_Text.f kj26 (wrap64 (a0))).bind fun t374 => (if t362.toList = t374.toList then (if (t365 == (x9_6 == 10)) = true then (if t365 = true then ((targumref4_Text.f kj26 (wrap64 (a0))).bind fun t375 => ((targumref4_Norm.f kj26 a3 t375).bind fun t376 => (if t364.toList = t376.toList then (if t367 = true then (some false) else (some (!t372))) else (some false)))) else (if t367 = true then (some false) else (some (!t372)))) else (some false)) else (some false))) else (some false)) = some r := H
                 have A36 := Aside0.mk A360
                 clear A360
                 refine Classical.byCases (p := (t363 = true)) (fun c37 => ?x12) (fun c37 => ?y12)
                 case' x12 =>
                  subst c37
                  have H1 : ((targumref4_Text.f kj26 (wrap64 (a0))).bind fun t374 => (if t362.toList = t374.toList then (if (t365 == (x9_6 == 10)) = true then (if t365 = true then ((targumref4_Text.f kj26 (wrap64 (a0))).bind fun t375 => ((targumref4_Norm.f kj26 a3 t375).bind fun t376 => (if t364.toList = t376.toList then (if t367 = true then (some false) else (some (!t372))) else (some false)))) else (if t367 = true then (some false) else (some (!t372)))) else (some false)) else (some false))) = some r := by rw [if_pos rfl] at H; exact H
                  clear H
                  have H := H1
                  clear H1
                  replace H := Option.bind_eq_some_iff.mp H
                  obtain ⟨t374, A380, H⟩ := H
                  replace H : (if t362.toList = t374.toList then (if (t365 == (x9_6 == 10)) = true then (if t365 = true then ((targumref4_Text.f kj26 (wrap64 (a0))).bind fun t375 => ((targumref4_Norm.f kj26 a3 t375).bind fun t376 => (if t364.toList = t376.toList then (if t367 = true then (some false) else (some (!t372))) else (some false)))) else (if t367 = true then (some false) else (some (!t372)))) else (some false)) else (some false)) = some r := H
                  have A38 := Aside0.mk A380
                  clear A380
                  refine Classical.byCases (p := (t362.toList = t374.toList)) (fun c39 => ?x13) (fun c39 => ?y13)
                  case' x13 =>
                   rw [if_pos c39] at H
                   have c39b0 : (t362.toList == t374.toList) = true := beq_iff_eq.mpr c39
                   have c39b1 : (t362.toList != t374.toList) = false := bne_eq_false_iff_eq.mpr c39
                   clear c39
                   refine Classical.byCases (p := ((t365 == (x9_6 == 10)) = true)) (fun c40 => ?x14) (fun c40 => ?y14)
                   case' x14 =>
                    rw [if_pos c40] at H
                    have c40b0 : (t365 == (x9_6 == 10)) = true := c40
                    (try (have c40b1 : decide (t365 = (x9_6 == 10)) = true := by simpa using c40))
                    (try (have c40b2 : (t365 == (x9_6 == 10)) = true := by simpa using c40))
                    clear c40
                    refine Classical.byCases (p := (t365 = true)) (fun c41 => ?x15) (fun c41 => ?y15)
                    case' x15 =>
                     subst c41
                     have H1 : ((targumref4_Text.f kj26 (wrap64 (a0))).bind fun t375 => ((targumref4_Norm.f kj26 a3 t375).bind fun t376 => (if t364.toList = t376.toList then (if t367 = true then (some false) else (some (!t372))) else (some false)))) = some r := by rw [if_pos rfl] at H; exact H
                     clear H
                     have H := H1
                     clear H1
                     replace H := Option.bind_eq_some_iff.mp H
                     obtain ⟨t375, A420, H⟩ := H
                     replace H : ((targumref4_Norm.f kj26 a3 t375).bind fun t376 => (if t364.toList = t376.toList then (if t367 = true then (some false) else (some (!t372))) else (some false))) = some r := H
                     have A42 := Aside0.mk A420
                     clear A420
                     replace H := Option.bind_eq_some_iff.mp H
                     obtain ⟨t376, A430, H⟩ := H
                     replace H : (if t364.toList = t376.toList then (if t367 = true then (some false) else (some (!t372))) else (some false)) = some r := H
                     have A43 := Aside0.mk A430
                     clear A430
                     refine Classical.byCases (p := (t364.toList = t376.toList)) (fun c44 => ?x16) (fun c44 => ?y16)
                     case' x16 =>
                      rw [if_pos c44] at H
                      have c44b0 : (t364.toList == t376.toList) = true := beq_iff_eq.mpr c44
                      have c44b1 : (t364.toList != t376.toList) = false := bne_eq_false_iff_eq.mpr c44
                      clear c44
                      refine Classical.byCases (p := (t367 = true)) (fun c45 => ?x17) (fun c45 => ?y17)
                      case' x17 =>
                       subst c45
                       have H1 : (some false) = some r := by rw [if_pos rfl] at H; exact H
                       clear H
                       have H := H1
                       clear H1
                       obtain rfl := Option.some.inj H
                       go_wp2_with (first | (go_at_call 9; (try (rename_i hK_; simp only [List.append] at hK_)); (with_reducible refine (num12_Int.calls kj26 (x10_6 ++ x11_3) t362 true _ ?side1 A30.out).mono ?_); (case side1 => exact Go.Proofs.YtbjlcipamdgnjaaDoor.Room.PowTab_below HG.out bl); rintro e w46 ⟨rfl, hb⟩; have n0_ := Aside0.mk (below_step bl hb); clear HB; have HB := n0_; clear n0_; (try clear hb); (try clear hb2); (try clear hk); (try clear hi)) | (go_at_call 9; (try (rename_i hK_; simp only [List.append] at hK_)); (with_reducible refine (num12_Int.calls kj26 ((x14_26 ++ x10_6) ++ x11_3) t364 true _ ?side1 A33.out).mono ?_); (case side1 => exact Go.Proofs.YtbjlcipamdgnjaaDoor.Room.PowTab_below HG.out bl); rintro e w47 ⟨rfl, hb⟩; have n0_ := Aside0.mk (below_step bl hb); clear HB; have HB := n0_; clear n0_; (try clear hb); (try clear hb2); (try clear hk); (try clear hi)) | (go_at_call 9; (try (rename_i hK_; simp only [List.append] at hK_)); (with_reducible refine (num12_Int.calls kj26 ((x10_6 ++ x11_3) ++ (⟨#[95]⟩ : ByteArray)) t366 true _ ?side1 A35.out).mono ?_); (case side1 => exact Go.Proofs.YtbjlcipamdgnjaaDoor.Room.PowTab_below HG.out bl); rintro e w48 ⟨rfl, hb⟩; have n0_ := Aside0.mk (below_step bl hb); clear HB; have HB := n0_; clear n0_; (try clear hb); (try clear hb2); (try clear hk); (try clear hi)) | (go_at_call 11; (try (rename_i hK_; simp only [List.append] at hK_)); (with_reducible refine (num12_Float.calls kj26 (x10_6 ++ x11_3) t368 t369 t370 t371 t372 _ ?side1 A36.out).mono ?_); (case side1 => exact Go.Proofs.YtbjlcipamdgnjaaDoor.Room.PowTab_below HG.out bl); rintro e w49 ⟨rfl, hb⟩; have n0_ := Aside0.mk (below_step bl hb); clear HB; have HB := n0_; clear n0_; (try clear hb); (try clear hb2); (try clear hk); (try clear hi)) | ((with_reducible refine gate_dst (N := 21) rfl ?_); refine box_event ?hg (N := 21) ?hd (cs := #[.int .i64 0, .bool false, .string (⟨#[]⟩ : ByteArray), .string (⟨#[]⟩ : ByteArray)]) (t := 28) ?hr ?_; (case hd => rfl); (case hg => rfl); (case hr => first | (go_simp; done) | (go_simp; rfl)); intro gb373 hg w50 hbox hb; have n0_ := Aside0.mk (below_step bl hb); have n1_ := Aside0.mk (hbox); have n2_ := Aside0.mk ((by rw [hg]; exact (below_size bl) : w.heap.size ≤ gb373)); have n3_ := Aside0.mk ((by rw [hg]; exact (below_size bl) : w.heap.size ≤ gb373)); clear HB; have HB := n0_; have BK373 := n1_; have GW373 := n2_; have GE373 := n3_; clear n0_ n1_ n2_ n3_; clear hb hbox hg; have hcz51_0 : w50.cell? ⟨gb373, 0, none⟩ = some (.int .i64 0) := (blk_cell BK373.out 0).trans rfl; have hcz51_1 : w50.cell? ⟨gb373, 1, none⟩ = some (.bool false) := (blk_cell BK373.out 1).trans rfl; have hcz51_2 : w50.cell? ⟨gb373, 2, none⟩ = some (.string (⟨#[]⟩ : ByteArray)) := (blk_cell BK373.out 2).trans rfl; have hcz51_3 : w50.cell? ⟨gb373, 3, none⟩ = some (.string (⟨#[]⟩ : ByteArray)) := (blk_cell BK373.out 3).trans rfl; have hfz51_0 := blk_frozen BK373.out 0; have hfz51_1 := blk_frozen BK373.out 1; have hfz51_2 := blk_frozen BK373.out 2; have hfz51_3 := blk_frozen BK373.out 3) | (go_at_call 17; (try (rename_i hK_; simp only [List.append] at hK_)); (with_reducible refine (targumref4_Text.calls kj26 (wrap64 (a0)) t374 _ A38.out).mono ?_); rintro e w52 ⟨rfl, hb⟩; have n0_ := Aside0.mk (blk_below (g := gb373) (o := .cells #[.int .i64 t368, .bool t369, .string t370, .string t371] 28 (0, 0)) bk hb); have n1_ := Aside0.mk (below_step bl hb); clear BK373; clear HB; have BK373 := n0_; have HB := n1_; clear n0_ n1_; (try clear hb); (try clear hb2); (try clear hk); (try clear hi); clear A38) | (go_at_call 17; (try (rename_i hK_; simp only [List.append] at hK_)); (with_reducible refine (targumref4_Text.calls kj26 (wrap64 (a0)) t375 _ A42.out).mono ?_); rintro e w53 ⟨rfl, hb⟩; have n0_ := Aside0.mk (blk_below (g := gb373) (o := .cells #[.int .i64 t368, .bool t369, .string t370, .string t371] 28 (0, 0)) bk hb); have n1_ := Aside0.mk (below_step bl hb); clear BK373; clear HB; have BK373 := n0_; have HB := n1_; clear n0_ n1_; (try clear hb); (try clear hb2); (try clear hk); (try clear hi); clear A42) | (go_at_call 18; (try (rename_i hK_; simp only [List.append] at hK_)); (with_reducible refine (targumref4_Norm.calls kj26 a3 t375 t376 _ A43.out).mono ?_); rintro e w' ⟨rfl, ⟨nd, rfl⟩⟩; (try first | exact ⟨rfl, _, World.drewN_drewN _ _ _⟩ | exact ⟨rfl, _, Eq.trans (World.drewN_drewN _ _ _) (congrArg (World.drewN _) (Nat.add_assoc _ _ _))⟩)))
                       skip
                      case' y17 =>
                       replace c45 := Bool.eq_false_iff.mpr c45
                       subst c45
                       have H1 : (some (!t372)) = some r := by rw [if_neg (show ¬ (false = true) by decide)] at H; exact H
                       clear H
                       have H := H1
                       clear H1
                       obtain rfl := Option.some.inj H
                       go_wp2_with (first | (go_at_call 9; (try (rename_i hK_; simp only [List.append] at hK_)); (with_reducible refine (num12_Int.calls kj26 (x10_6 ++ x11_3) t362 true _ ?side1 A30.out).mono ?_); (case side1 => exact Go.Proofs.YtbjlcipamdgnjaaDoor.Room.PowTab_below HG.out bl); rintro e w54 ⟨rfl, hb⟩; have n0_ := Aside0.mk (below_step bl hb); clear HB; have HB := n0_; clear n0_; (try clear hb); (try clear hb2); (try clear hk); (try clear hi)) | (go_at_call 9; (try (rename_i hK_; simp only [List.append] at hK_)); (with_reducible refine (num12_Int.calls kj26 ((x14_26 ++ x10_6) ++ x11_3) t364 true _ ?side1 A33.out).mono ?_); (case side1 => exact Go.Proofs.YtbjlcipamdgnjaaDoor.Room.PowTab_below HG.out bl); rintro e w55 ⟨rfl, hb⟩; have n0_ := Aside0.mk (below_step bl hb); clear HB; have HB := n0_; clear n0_; (try clear hb); (try clear hb2); (try clear hk); (try clear hi)) | (go_at_call 9; (try (rename_i hK_; simp only [List.append] at hK_)); (with_reducible refine (num12_Int.calls kj26 ((x10_6 ++ x11_3) ++ (⟨#[95]⟩ : ByteArray)) t366 false _ ?side1 A35.out).mono ?_); (case side1 => exact Go.Proofs.YtbjlcipamdgnjaaDoor.Room.PowTab_below HG.out bl); rintro e w56 ⟨rfl, hb⟩; have n0_ := Aside0.mk (below_step bl hb); clear HB; have HB := n0_; clear n0_; (try clear hb); (try clear hb2); (try clear hk); (try clear hi)) | (go_at_call 11; (try (rename_i hK_; simp only [List.append] at hK_)); (with_reducible refine (num12_Float.calls kj26 (x10_6 ++ x11_3) t368 t369 t370 t371 t372 _ ?side1 A36.out).mono ?_); (case side1 => exact Go.Proofs.YtbjlcipamdgnjaaDoor.Room.PowTab_below HG.out bl); rintro e w57 ⟨rfl, hb⟩; have n0_ := Aside0.mk (below_step bl hb); clear HB; have HB := n0_; clear n0_; (try clear hb); (try clear hb2); (try clear hk); (try clear hi)) | ((with_reducible refine gate_dst (N := 21) rfl ?_); refine box_event ?hg (N := 21) ?hd (cs := #[.int .i64 0, .bool false, .string (⟨#[]⟩ : ByteArray), .string (⟨#[]⟩ : ByteArray)]) (t := 28) ?hr ?_; (case hd => rfl); (case hg => rfl); (case hr => first | (go_simp; done) | (go_simp; rfl)); intro gb373 hg w58 hbox hb; have n0_ := Aside0.mk (below_step bl hb); have n1_ := Aside0.mk (hbox); have n2_ := Aside0.mk ((by rw [hg]; exact (below_size bl) : w.heap.size ≤ gb373)); have n3_ := Aside0.mk ((by rw [hg]; exact (below_size bl) : w.heap.size ≤ gb373)); clear HB; have HB := n0_; have BK373 := n1_; have GW373 := n2_; have GE373 := n3_; clear n0_ n1_ n2_ n3_; clear hb hbox hg; have hcz59_0 : w58.cell? ⟨gb373, 0, none⟩ = some (.int .i64 0) := (blk_cell BK373.out 0).trans rfl; have hcz59_1 : w58.cell? ⟨gb373, 1, none⟩ = some (.bool false) := (blk_cell BK373.out 1).trans rfl; have hcz59_2 : w58.cell? ⟨gb373, 2, none⟩ = some (.string (⟨#[]⟩ : ByteArray)) := (blk_cell BK373.out 2).trans rfl; have hcz59_3 : w58.cell? ⟨gb373, 3, none⟩ = some (.string (⟨#[]⟩ : ByteArray)) := (blk_cell BK373.out 3).trans rfl; have hfz59_0 := blk_frozen BK373.out 0; have hfz59_1 := blk_frozen BK373.out 1; have hfz59_2 := blk_frozen BK373.out 2; have hfz59_3 := blk_frozen BK373.out 3) | (go_at_call 17; (try (rename_i hK_; simp only [List.append] at hK_)); (with_reducible refine (targumref4_Text.calls kj26 (wrap64 (a0)) t374 _ A38.out).mono ?_); rintro e w60 ⟨rfl, hb⟩; have n0_ := Aside0.mk (blk_below (g := gb373) (o := .cells #[.int .i64 t368, .bool t369, .string t370, .string t371] 28 (0, 0)) bk hb); have n1_ := Aside0.mk (below_step bl hb); clear BK373; clear HB; have BK373 := n0_; have HB := n1_; clear n0_ n1_; (try clear hb); (try clear hb2); (try clear hk); (try clear hi); clear A38) | (go_at_call 17; (try (rename_i hK_; simp only [List.append] at hK_)); (with_reducible refine (targumref4_Text.calls kj26 (wrap64 (a0)) t375 _ A42.out).mono ?_); rintro e w61 ⟨rfl, hb⟩; have n0_ := Aside0.mk (blk_below (g := gb373) (o := .cells #[.int .i64 t368, .bool t369, .string t370, .string t371] 28 (0, 0)) bk hb); have n1_ := Aside0.mk (below_step bl hb); clear BK373; clear HB; have BK373 := n0_; have HB := n1_; clear n0_ n1_; (try clear hb); (try clear hb2); (try clear hk); (try clear hi); clear A42) | (go_at_call 18; (try (rename_i hK_; simp only [List.append] at hK_)); (with_reducible refine (targumref4_Norm.calls kj26 a3 t375 t376 _ A43.out).mono ?_); rintro e w' ⟨rfl, ⟨nd, rfl⟩⟩; (try first | exact ⟨rfl, _, World.drewN_drewN _ _ _⟩ | exact ⟨rfl, _, Eq.trans (World.drewN_drewN _ _ _) (congrArg (World.drewN _) (Nat.add_assoc _ _ _))⟩)))
                       skip
                     case' y16 =>
                      rw [if_neg c44] at H
                      have c44b0 : (t364.toList == t376.toList) = false := beq_eq_false_iff_ne.mpr c44
                      have c44b1 : (t364.toList != t376.toList) = true := bne_iff_ne.mpr c44
                      obtain rfl := Option.some.inj H
                      go_wp2_with (first | (go_at_call 9; (try (rename_i hK_; simp only [List.append] at hK_)); (with_reducible refine (num12_Int.calls kj26 (x10_6 ++ x11_3) t362 true _ ?side1 A30.out).mono ?_); (case side1 => exact Go.Proofs.YtbjlcipamdgnjaaDoor.Room.PowTab_below HG.out bl); rintro e w62 ⟨rfl, hb⟩; have n0_ := Aside0.mk (below_step bl hb); clear HB; have HB := n0_; clear n0_; (try clear hb); (try clear hb2); (try clear hk); (try clear hi)) | (go_at_call 9; (try (rename_i hK_; simp only [List.append] at hK_)); (with_reducible refine (num12_Int.calls kj26 ((x14_26 ++ x10_6) ++ x11_3) t364 true _ ?side1 A33.out).mono ?_); (case side1 => exact Go.Proofs.YtbjlcipamdgnjaaDoor.Room.PowTab_below HG.out bl); rintro e w63 ⟨rfl, hb⟩; have n0_ := Aside0.mk (below_step bl hb); clear HB; have HB := n0_; clear n0_; (try clear hb); (try clear hb2); (try clear hk); (try clear hi)) | (go_at_call 9; (try (rename_i hK_; simp only [List.append] at hK_)); (with_reducible refine (num12_Int.calls kj26 ((x10_6 ++ x11_3) ++ (⟨#[95]⟩ : ByteArray)) t366 t367 _ ?side1 A35.out).mono ?_); (case side1 => exact Go.Proofs.YtbjlcipamdgnjaaDoor.Room.PowTab_below HG.out bl); rintro e w64 ⟨rfl, hb⟩; have n0_ := Aside0.mk (below_step bl hb); clear HB; have HB := n0_; clear n0_; (try clear hb); (try clear hb2); (try clear hk); (try clear hi)) | (go_at_call 11; (try (rename_i hK_; simp only [List.append] at hK_)); (with_reducible refine (num12_Float.calls kj26 (x10_6 ++ x11_3) t368 t369 t370 t371 t372 _ ?side1 A36.out).mono ?_); (case side1 => exact Go.Proofs.YtbjlcipamdgnjaaDoor.Room.PowTab_below HG.out bl); rintro e w65 ⟨rfl, hb⟩; have n0_ := Aside0.mk (below_step bl hb); clear HB; have HB := n0_; clear n0_; (try clear hb); (try clear hb2); (try clear hk); (try clear hi)) | ((with_reducible refine gate_dst (N := 21) rfl ?_); refine box_event ?hg (N := 21) ?hd (cs := #[.int .i64 0, .bool false, .string (⟨#[]⟩ : ByteArray), .string (⟨#[]⟩ : ByteArray)]) (t := 28) ?hr ?_; (case hd => rfl); (case hg => rfl); (case hr => first | (go_simp; done) | (go_simp; rfl)); intro gb373 hg w66 hbox hb; have n0_ := Aside0.mk (below_step bl hb); have n1_ := Aside0.mk (hbox); have n2_ := Aside0.mk ((by rw [hg]; exact (below_size bl) : w.heap.size ≤ gb373)); have n3_ := Aside0.mk ((by rw [hg]; exact (below_size bl) : w.heap.size ≤ gb373)); clear HB; have HB := n0_; have BK373 := n1_; have GW373 := n2_; have GE373 := n3_; clear n0_ n1_ n2_ n3_; clear hb hbox hg; have hcz67_0 : w66.cell? ⟨gb373, 0, none⟩ = some (.int .i64 0) := (blk_cell BK373.out 0).trans rfl; have hcz67_1 : w66.cell? ⟨gb373, 1, none⟩ = some (.bool false) := (blk_cell BK373.out 1).trans rfl; have hcz67_2 : w66.cell? ⟨gb373, 2, none⟩ = some (.string (⟨#[]⟩ : ByteArray)) := (blk_cell BK373.out 2).trans rfl; have hcz67_3 : w66.cell? ⟨gb373, 3, none⟩ = some (.string (⟨#[]⟩ : ByteArray)) := (blk_cell BK373.out 3).trans rfl; have hfz67_0 := blk_frozen BK373.out 0; have hfz67_1 := blk_frozen BK373.out 1; have hfz67_2 := blk_frozen BK373.out 2; have hfz67_3 := blk_frozen BK373.out 3) | (go_at_call 17; (try (rename_i hK_; simp only [List.append] at hK_)); (with_reducible refine (targumref4_Text.calls kj26 (wrap64 (a0)) t374 _ A38.out).mono ?_); rintro e w68 ⟨rfl, hb⟩; have n0_ := Aside0.mk (blk_below (g := gb373) (o := .cells #[.int .i64 t368, .bool t369, .string t370, .string t371] 28 (0, 0)) bk hb); have n1_ := Aside0.mk (below_step bl hb); clear BK373; clear HB; have BK373 := n0_; have HB := n1_; clear n0_ n1_; (try clear hb); (try clear hb2); (try clear hk); (try clear hi); clear A38) | (go_at_call 17; (try (rename_i hK_; simp only [List.append] at hK_)); (with_reducible refine (targumref4_Text.calls kj26 (wrap64 (a0)) t375 _ A42.out).mono ?_); rintro e w69 ⟨rfl, hb⟩; have n0_ := Aside0.mk (blk_below (g := gb373) (o := .cells #[.int .i64 t368, .bool t369, .string t370, .string t371] 28 (0, 0)) bk hb); have n1_ := Aside0.mk (below_step bl hb); clear BK373; clear HB; have BK373 := n0_; have HB := n1_; clear n0_ n1_; (try clear hb); (try clear hb2); (try clear hk); (try clear hi); clear A42) | (go_at_call 18; (try (rename_i hK_; simp only [List.append] at hK_)); (with_reducible refine (targumref4_Norm.calls kj26 a3 t375 t376 _ A43.out).mono ?_); rintro e w' ⟨rfl, ⟨nd, rfl⟩⟩; (try first | exact ⟨rfl, _, World.drewN_drewN _ _ _⟩ | exact ⟨rfl, _, Eq.trans (World.drewN_drewN _ _ _) (congrArg (World.drewN _) (Nat.add_assoc _ _ _))⟩)))
                      skip
                    case' y15 =>
                     replace c41 := Bool.eq_false_iff.mpr c41
                     subst c41
                     have H1 : (if t367 = true then (some false) else (some (!t372))) = some r := by rw [if_neg (show ¬ (false = true) by decide)] at H; exact H
                     clear H
                     have H := H1
                     clear H1
                     refine Classical.byCases (p := (t367 = true)) (fun c70 => ?x18) (fun c70 => ?y18)
                     case' x18 =>
                      subst c70
                      have H1 : (some false) = some r := by rw [if_pos rfl] at H; exact H
                      clear H
                      have H := H1
                      clear H1
                      obtain rfl := Option.some.inj H
                      go_wp2_with (first | (go_at_call 9; (try (rename_i hK_; simp only [List.append] at hK_)); (with_reducible refine (num12_Int.calls kj26 (x10_6 ++ x11_3) t362 true _ ?side1 A30.out).mono ?_); (case side1 => exact Go.Proofs.YtbjlcipamdgnjaaDoor.Room.PowTab_below HG.out bl); rintro e w71 ⟨rfl, hb⟩; have n0_ := Aside0.mk (below_step bl hb); clear HB; have HB := n0_; clear n0_; (try clear hb); (try clear hb2); (try clear hk); (try clear hi)) | (go_at_call 9; (try (rename_i hK_; simp only [List.append] at hK_)); (with_reducible refine (num12_Int.calls kj26 ((x14_26 ++ x10_6) ++ x11_3) t364 false _ ?side1 A33.out).mono ?_); (case side1 => exact Go.Proofs.YtbjlcipamdgnjaaDoor.Room.PowTab_below HG.out bl); rintro e w72 ⟨rfl, hb⟩; have n0_ := Aside0.mk (below_step bl hb); clear HB; have HB := n0_; clear n0_; (try clear hb); (try clear hb2); (try clear hk); (try clear hi)) | (go_at_call 9; (try (rename_i hK_; simp only [List.append] at hK_)); (with_reducible refine (num12_Int.calls kj26 ((x10_6 ++ x11_3) ++ (⟨#[95]⟩ : ByteArray)) t366 true _ ?side1 A35.out).mono ?_); (case side1 => exact Go.Proofs.YtbjlcipamdgnjaaDoor.Room.PowTab_below HG.out bl); rintro e w73 ⟨rfl, hb⟩; have n0_ := Aside0.mk (below_step bl hb); clear HB; have HB := n0_; clear n0_; (try clear hb); (try clear hb2); (try clear hk); (try clear hi)) | (go_at_call 11; (try (rename_i hK_; simp only [List.append] at hK_)); (with_reducible refine (num12_Float.calls kj26 (x10_6 ++ x11_3) t368 t369 t370 t371 t372 _ ?side1 A36.out).mono ?_); (case side1 => exact Go.Proofs.YtbjlcipamdgnjaaDoor.Room.PowTab_below HG.out bl); rintro e w74 ⟨rfl, hb⟩; have n0_ := Aside0.mk (below_step bl hb); clear HB; have HB := n0_; clear n0_; (try clear hb); (try clear hb2); (try clear hk); (try clear hi)) | ((with_reducible refine gate_dst (N := 21) rfl ?_); refine box_event ?hg (N := 21) ?hd (cs := #[.int .i64 0, .bool false, .string (⟨#[]⟩ : ByteArray), .string (⟨#[]⟩ : ByteArray)]) (t := 28) ?hr ?_; (case hd => rfl); (case hg => rfl); (case hr => first | (go_simp; done) | (go_simp; rfl)); intro gb373 hg w75 hbox hb; have n0_ := Aside0.mk (below_step bl hb); have n1_ := Aside0.mk (hbox); have n2_ := Aside0.mk ((by rw [hg]; exact (below_size bl) : w.heap.size ≤ gb373)); have n3_ := Aside0.mk ((by rw [hg]; exact (below_size bl) : w.heap.size ≤ gb373)); clear HB; have HB := n0_; have BK373 := n1_; have GW373 := n2_; have GE373 := n3_; clear n0_ n1_ n2_ n3_; clear hb hbox hg; have hcz76_0 : w75.cell? ⟨gb373, 0, none⟩ = some (.int .i64 0) := (blk_cell BK373.out 0).trans rfl; have hcz76_1 : w75.cell? ⟨gb373, 1, none⟩ = some (.bool false) := (blk_cell BK373.out 1).trans rfl; have hcz76_2 : w75.cell? ⟨gb373, 2, none⟩ = some (.string (⟨#[]⟩ : ByteArray)) := (blk_cell BK373.out 2).trans rfl; have hcz76_3 : w75.cell? ⟨gb373, 3, none⟩ = some (.string (⟨#[]⟩ : ByteArray)) := (blk_cell BK373.out 3).trans rfl; have hfz76_0 := blk_frozen BK373.out 0; have hfz76_1 := blk_frozen BK373.out 1; have hfz76_2 := blk_frozen BK373.out 2; have hfz76_3 := blk_frozen BK373.out 3) | (go_at_call 17; (try (rename_i hK_; simp only [List.append] at hK_)); (with_reducible refine (targumref4_Text.calls kj26 (wrap64 (a0)) t374 _ A38.out).mono ?_); rintro e w77 ⟨rfl, hb⟩; have n0_ := Aside0.mk (blk_below (g := gb373) (o := .cells #[.int .i64 t368, .bool t369, .string t370, .string t371] 28 (0, 0)) bk hb); have n1_ := Aside0.mk (below_step bl hb); clear BK373; clear HB; have BK373 := n0_; have HB := n1_; clear n0_ n1_; (try clear hb); (try clear hb2); (try clear hk); (try clear hi)))
                      skip
                     case' y18 =>
                      replace c70 := Bool.eq_false_iff.mpr c70
                      subst c70
                      have H1 : (some (!t372)) = some r := by rw [if_neg (show ¬ (false = true) by decide)] at H; exact H
                      clear H
                      have H := H1
                      clear H1
                      obtain rfl := Option.some.inj H
                      go_wp2_with (first | (go_at_call 9; (try (rename_i hK_; simp only [List.append] at hK_)); (with_reducible refine (num12_Int.calls kj26 (x10_6 ++ x11_3) t362 true _ ?side1 A30.out).mono ?_); (case side1 => exact Go.Proofs.YtbjlcipamdgnjaaDoor.Room.PowTab_below HG.out bl); rintro e w78 ⟨rfl, hb⟩; have n0_ := Aside0.mk (below_step bl hb); clear HB; have HB := n0_; clear n0_; (try clear hb); (try clear hb2); (try clear hk); (try clear hi)) | (go_at_call 9; (try (rename_i hK_; simp only [List.append] at hK_)); (with_reducible refine (num12_Int.calls kj26 ((x14_26 ++ x10_6) ++ x11_3) t364 false _ ?side1 A33.out).mono ?_); (case side1 => exact Go.Proofs.YtbjlcipamdgnjaaDoor.Room.PowTab_below HG.out bl); rintro e w79 ⟨rfl, hb⟩; have n0_ := Aside0.mk (below_step bl hb); clear HB; have HB := n0_; clear n0_; (try clear hb); (try clear hb2); (try clear hk); (try clear hi)) | (go_at_call 9; (try (rename_i hK_; simp only [List.append] at hK_)); (with_reducible refine (num12_Int.calls kj26 ((x10_6 ++ x11_3) ++ (⟨#[95]⟩ : ByteArray)) t366 false _ ?side1 A35.out).mono ?_); (case side1 => exact Go.Proofs.YtbjlcipamdgnjaaDoor.Room.PowTab_below HG.out bl); rintro e w80 ⟨rfl, hb⟩; have n0_ := Aside0.mk (below_step bl hb); clear HB; have HB := n0_; clear n0_; (try clear hb); (try clear hb2); (try clear hk); (try clear hi)) | (go_at_call 11; (try (rename_i hK_; simp only [List.append] at hK_)); (with_reducible refine (num12_Float.calls kj26 (x10_6 ++ x11_3) t368 t369 t370 t371 t372 _ ?side1 A36.out).mono ?_); (case side1 => exact Go.Proofs.YtbjlcipamdgnjaaDoor.Room.PowTab_below HG.out bl); rintro e w81 ⟨rfl, hb⟩; have n0_ := Aside0.mk (below_step bl hb); clear HB; have HB := n0_; clear n0_; (try clear hb); (try clear hb2); (try clear hk); (try clear hi)) | ((with_reducible refine gate_dst (N := 21) rfl ?_); refine box_event ?hg (N := 21) ?hd (cs := #[.int .i64 0, .bool false, .string (⟨#[]⟩ : ByteArray), .string (⟨#[]⟩ : ByteArray)]) (t := 28) ?hr ?_; (case hd => rfl); (case hg => rfl); (case hr => first | (go_simp; done) | (go_simp; rfl)); intro gb373 hg w82 hbox hb; have n0_ := Aside0.mk (below_step bl hb); have n1_ := Aside0.mk (hbox); have n2_ := Aside0.mk ((by rw [hg]; exact (below_size bl) : w.heap.size ≤ gb373)); have n3_ := Aside0.mk ((by rw [hg]; exact (below_size bl) : w.heap.size ≤ gb373)); clear HB; have HB := n0_; have BK373 := n1_; have GW373 := n2_; have GE373 := n3_; clear n0_ n1_ n2_ n3_; clear hb hbox hg; have hcz83_0 : w82.cell? ⟨gb373, 0, none⟩ = some (.int .i64 0) := (blk_cell BK373.out 0).trans rfl; have hcz83_1 : w82.cell? ⟨gb373, 1, none⟩ = some (.bool false) := (blk_cell BK373.out 1).trans rfl; have hcz83_2 : w82.cell? ⟨gb373, 2, none⟩ = some (.string (⟨#[]⟩ : ByteArray)) := (blk_cell BK373.out 2).trans rfl; have hcz83_3 : w82.cell? ⟨gb373, 3, none⟩ = some (.string (⟨#[]⟩ : ByteArray)) := (blk_cell BK373.out 3).trans rfl; have hfz83_0 := blk_frozen BK373.out 0; have hfz83_1 := blk_frozen BK373.out 1; have hfz83_2 := blk_frozen BK373.out 2; have hfz83_3 := blk_frozen BK373.out 3) | (go_at_call 17; (try (rename_i hK_; simp only [List.append] at hK_)); (with_reducible refine (targumref4_Text.calls kj26 (wrap64 (a0)) t374 _ A38.out).mono ?_); rintro e w84 ⟨rfl, hb⟩; have n0_ := Aside0.mk (blk_below (g := gb373) (o := .cells #[.int .i64 t368, .bool t369, .string t370, .string t371] 28 (0, 0)) bk hb); have n1_ := Aside0.mk (below_step bl hb); clear BK373; clear HB; have BK373 := n0_; have HB := n1_; clear n0_ n1_; (try clear hb); (try clear hb2); (try clear hk); (try clear hi)))
                      skip
                     case x18 | y18 =>
                      as_aux_lemma =>
                       repeat (go_quiet (first | (go_at_call 9; (try (rename_i hK_; simp only [List.append] at hK_)); (with_reducible refine (num12_Int.calls _ _ _ _ _ ?side1 A30.out).mono ?_); (case side1 => exact Go.Proofs.YtbjlcipamdgnjaaDoor.Room.PowTab_below HG.out bl); rintro e w71 ⟨rfl, hb⟩; have n0_ := Aside0.mk (below_step bl hb); clear HB; have HB := n0_; clear n0_; (try clear hb); (try clear hb2); (try clear hk); (try clear hi)) | (go_at_call 9; (try (rename_i hK_; simp only [List.append] at hK_)); (with_reducible refine (num12_Int.calls _ _ _ _ _ ?side1 A33.out).mono ?_); (case side1 => exact Go.Proofs.YtbjlcipamdgnjaaDoor.Room.PowTab_below HG.out bl); rintro e w72 ⟨rfl, hb⟩; have n0_ := Aside0.mk (below_step bl hb); clear HB; have HB := n0_; clear n0_; (try clear hb); (try clear hb2); (try clear hk); (try clear hi)) | (go_at_call 9; (try (rename_i hK_; simp only [List.append] at hK_)); (with_reducible refine (num12_Int.calls _ _ _ _ _ ?side1 A35.out).mono ?_); (case side1 => exact Go.Proofs.YtbjlcipamdgnjaaDoor.Room.PowTab_below HG.out bl); rintro e w73 ⟨rfl, hb⟩; have n0_ := Aside0.mk (below_step bl hb); clear HB; have HB := n0_; clear n0_; (try clear hb); (try clear hb2); (try clear hk); (try clear hi)) | (go_at_call 11; (try (rename_i hK_; simp only [List.append] at hK_)); (with_reducible refine (num12_Float.calls _ _ _ _ _ _ _ _ ?side1 A36.out).mono ?_); (case side1 => exact Go.Proofs.YtbjlcipamdgnjaaDoor.Room.PowTab_below HG.out bl); rintro e w74 ⟨rfl, hb⟩; have n0_ := Aside0.mk (below_step bl hb); clear HB; have HB := n0_; clear n0_; (try clear hb); (try clear hb2); (try clear hk); (try clear hi)) | ((with_reducible refine gate_dst (N := 21) rfl ?_); refine box_event ?hg (N := 21) ?hd (cs := #[.int .i64 0, .bool false, .string (⟨#[]⟩ : ByteArray), .string (⟨#[]⟩ : ByteArray)]) (t := 28) ?hr ?_; (case hd => rfl); (case hg => rfl); (case hr => first | (go_simp; done) | (go_simp; rfl)); intro gb373 hg w75 hbox hb; have n0_ := Aside0.mk (below_step bl hb); have n1_ := Aside0.mk (hbox); have n2_ := Aside0.mk ((by rw [hg]; exact (below_size bl) : w.heap.size ≤ gb373)); have n3_ := Aside0.mk ((by rw [hg]; exact (below_size bl) : w.heap.size ≤ gb373)); clear HB; have HB := n0_; have BK373 := n1_; have GW373 := n2_; have GE373 := n3_; clear n0_ n1_ n2_ n3_; clear hb hbox hg; have hcz76_0 : w75.cell? ⟨gb373, 0, none⟩ = some (.int .i64 0) := (blk_cell BK373.out 0).trans rfl; have hcz76_1 : w75.cell? ⟨gb373, 1, none⟩ = some (.bool false) := (blk_cell BK373.out 1).trans rfl; have hcz76_2 : w75.cell? ⟨gb373, 2, none⟩ = some (.string (⟨#[]⟩ : ByteArray)) := (blk_cell BK373.out 2).trans rfl; have hcz76_3 : w75.cell? ⟨gb373, 3, none⟩ = some (.string (⟨#[]⟩ : ByteArray)) := (blk_cell BK373.out 3).trans rfl; have hfz76_0 := blk_frozen BK373.out 0; have hfz76_1 := blk_frozen BK373.out 1; have hfz76_2 := blk_frozen BK373.out 2; have hfz76_3 := blk_frozen BK373.out 3) | (go_at_call 17; (try (rename_i hK_; simp only [List.append] at hK_)); (with_reducible refine (targumref4_Text.calls _ _ _ _ A38.out).mono ?_); rintro e w77 ⟨rfl, hb⟩; have n0_ := Aside0.mk (blk_below (g := gb373) (o := .cells #[.int .i64 t368, .bool t369, .string t370, .string t371] 28 (0, 0)) bk hb); have n1_ := Aside0.mk (below_step bl hb); clear BK373; clear HB; have BK373 := n0_; have HB := n1_; clear n0_ n1_; (try clear hb); (try clear hb2); (try clear hk); (try clear hi))); try go_wp2_with (first | (go_at_call 9; (try (rename_i hK_; simp only [List.append] at hK_)); (with_reducible refine (num12_Int.calls _ _ _ _ _ ?side1 A30.out).mono ?_); (case side1 => exact Go.Proofs.YtbjlcipamdgnjaaDoor.Room.PowTab_below HG.out bl); rintro e w71 ⟨rfl, hb⟩; have n0_ := Aside0.mk (below_step bl hb); clear HB; have HB := n0_; clear n0_; (try clear hb); (try clear hb2); (try clear hk); (try clear hi)) | (go_at_call 9; (try (rename_i hK_; simp only [List.append] at hK_)); (with_reducible refine (num12_Int.calls _ _ _ _ _ ?side1 A33.out).mono ?_); (case side1 => exact Go.Proofs.YtbjlcipamdgnjaaDoor.Room.PowTab_below HG.out bl); rintro e w72 ⟨rfl, hb⟩; have n0_ := Aside0.mk (below_step bl hb); clear HB; have HB := n0_; clear n0_; (try clear hb); (try clear hb2); (try clear hk); (try clear hi)) | (go_at_call 9; (try (rename_i hK_; simp only [List.append] at hK_)); (with_reducible refine (num12_Int.calls _ _ _ _ _ ?side1 A35.out).mono ?_); (case side1 => exact Go.Proofs.YtbjlcipamdgnjaaDoor.Room.PowTab_below HG.out bl); rintro e w73 ⟨rfl, hb⟩; have n0_ := Aside0.mk (below_step bl hb); clear HB; have HB := n0_; clear n0_; (try clear hb); (try clear hb2); (try clear hk); (try clear hi)) | (go_at_call 11; (try (rename_i hK_; simp only [List.append] at hK_)); (with_reducible refine (num12_Float.calls _ _ _ _ _ _ _ _ ?side1 A36.out).mono ?_); (case side1 => exact Go.Proofs.YtbjlcipamdgnjaaDoor.Room.PowTab_below HG.out bl); rintro e w74 ⟨rfl, hb⟩; have n0_ := Aside0.mk (below_step bl hb); clear HB; have HB := n0_; clear n0_; (try clear hb); (try clear hb2); (try clear hk); (try clear hi)) | ((with_reducible refine gate_dst (N := 21) rfl ?_); refine box_event ?hg (N := 21) ?hd (cs := #[.int .i64 0, .bool false, .string (⟨#[]⟩ : ByteArray), .string (⟨#[]⟩ : ByteArray)]) (t := 28) ?hr ?_; (case hd => rfl); (case hg => rfl); (case hr => first | (go_simp; done) | (go_simp; rfl)); intro gb373 hg w75 hbox hb; have n0_ := Aside0.mk (below_step bl hb); have n1_ := Aside0.mk (hbox); have n2_ := Aside0.mk ((by rw [hg]; exact (below_size bl) : w.heap.size ≤ gb373)); have n3_ := Aside0.mk ((by rw [hg]; exact (below_size bl) : w.heap.size ≤ gb373)); clear HB; have HB := n0_; have BK373 := n1_; have GW373 := n2_; have GE373 := n3_; clear n0_ n1_ n2_ n3_; clear hb hbox hg; have hcz76_0 : w75.cell? ⟨gb373, 0, none⟩ = some (.int .i64 0) := (blk_cell BK373.out 0).trans rfl; have hcz76_1 : w75.cell? ⟨gb373, 1, none⟩ = some (.bool false) := (blk_cell BK373.out 1).trans rfl; have hcz76_2 : w75.cell? ⟨gb373, 2, none⟩ = some (.string (⟨#[]⟩ : ByteArray)) := (blk_cell BK373.out 2).trans rfl; have hcz76_3 : w75.cell? ⟨gb373, 3, none⟩ = some (.string (⟨#[]⟩ : ByteArray)) := (blk_cell BK373.out 3).trans rfl; have hfz76_0 := blk_frozen BK373.out 0; have hfz76_1 := blk_frozen BK373.out 1; have hfz76_2 := blk_frozen BK373.out 2; have hfz76_3 := blk_frozen BK373.out 3) | (go_at_call 17; (try (rename_i hK_; simp only [List.append] at hK_)); (with_reducible refine (targumref4_Text.calls _ _ _ _ A38.out).mono ?_); rintro e w77 ⟨rfl, hb⟩; have n0_ := Aside0.mk (blk_below (g := gb373) (o := .cells #[.int .i64 t368, .bool t369, .string t370, .string t371] 28 (0, 0)) bk hb); have n1_ := Aside0.mk (below_step bl hb); clear BK373; clear HB; have BK373 := n0_; have HB := n1_; clear n0_ n1_; (try clear hb); (try clear hb2); (try clear hk); (try clear hi))))
                       go_ret
                       exact ⟨by first | rfl | (simp [errW_none, errW_some] <;> rfl) | (simp [*, errW_none, errW_some] <;> rfl) | ((generalize ByteArray.toList _ = z_); cases z_ <;> first | rfl | (simp; done)), bl⟩
                   case' y14 =>
                    rw [if_neg c40] at H
                    have c40b0 : (t365 == (x9_6 == 10)) = false := by simpa using c40
                    (try (have c40b1 : decide (t365 = (x9_6 == 10)) = false := by simpa using c40))
                    (try (have c40b2 : (t365 == (x9_6 == 10)) = false := by simpa using c40))
                    (try (have c40b3 : ¬ (t365 = (x9_6 == 10)) := by simpa using c40))
                    clear c40
                    obtain rfl := Option.some.inj H
                    go_wp2_with (first | (go_at_call 9; (try (rename_i hK_; simp only [List.append] at hK_)); (with_reducible refine (num12_Int.calls kj26 (x10_6 ++ x11_3) t362 true _ ?side1 A30.out).mono ?_); (case side1 => exact Go.Proofs.YtbjlcipamdgnjaaDoor.Room.PowTab_below HG.out bl); rintro e w85 ⟨rfl, hb⟩; have n0_ := Aside0.mk (below_step bl hb); clear HB; have HB := n0_; clear n0_; (try clear hb); (try clear hb2); (try clear hk); (try clear hi)) | (go_at_call 9; (try (rename_i hK_; simp only [List.append] at hK_)); (with_reducible refine (num12_Int.calls kj26 ((x14_26 ++ x10_6) ++ x11_3) t364 t365 _ ?side1 A33.out).mono ?_); (case side1 => exact Go.Proofs.YtbjlcipamdgnjaaDoor.Room.PowTab_below HG.out bl); rintro e w86 ⟨rfl, hb⟩; have n0_ := Aside0.mk (below_step bl hb); clear HB; have HB := n0_; clear n0_; (try clear hb); (try clear hb2); (try clear hk); (try clear hi)) | (go_at_call 9; (try (rename_i hK_; simp only [List.append] at hK_)); (with_reducible refine (num12_Int.calls kj26 ((x10_6 ++ x11_3) ++ (⟨#[95]⟩ : ByteArray)) t366 t367 _ ?side1 A35.out).mono ?_); (case side1 => exact Go.Proofs.YtbjlcipamdgnjaaDoor.Room.PowTab_below HG.out bl); rintro e w87 ⟨rfl, hb⟩; have n0_ := Aside0.mk (below_step bl hb); clear HB; have HB := n0_; clear n0_; (try clear hb); (try clear hb2); (try clear hk); (try clear hi)) | (go_at_call 11; (try (rename_i hK_; simp only [List.append] at hK_)); (with_reducible refine (num12_Float.calls kj26 (x10_6 ++ x11_3) t368 t369 t370 t371 t372 _ ?side1 A36.out).mono ?_); (case side1 => exact Go.Proofs.YtbjlcipamdgnjaaDoor.Room.PowTab_below HG.out bl); rintro e w88 ⟨rfl, hb⟩; have n0_ := Aside0.mk (below_step bl hb); clear HB; have HB := n0_; clear n0_; (try clear hb); (try clear hb2); (try clear hk); (try clear hi)) | ((with_reducible refine gate_dst (N := 21) rfl ?_); refine box_event ?hg (N := 21) ?hd (cs := #[.int .i64 0, .bool false, .string (⟨#[]⟩ : ByteArray), .string (⟨#[]⟩ : ByteArray)]) (t := 28) ?hr ?_; (case hd => rfl); (case hg => rfl); (case hr => first | (go_simp; done) | (go_simp; rfl)); intro gb373 hg w89 hbox hb; have n0_ := Aside0.mk (below_step bl hb); have n1_ := Aside0.mk (hbox); have n2_ := Aside0.mk ((by rw [hg]; exact (below_size bl) : w.heap.size ≤ gb373)); have n3_ := Aside0.mk ((by rw [hg]; exact (below_size bl) : w.heap.size ≤ gb373)); clear HB; have HB := n0_; have BK373 := n1_; have GW373 := n2_; have GE373 := n3_; clear n0_ n1_ n2_ n3_; clear hb hbox hg; have hcz90_0 : w89.cell? ⟨gb373, 0, none⟩ = some (.int .i64 0) := (blk_cell BK373.out 0).trans rfl; have hcz90_1 : w89.cell? ⟨gb373, 1, none⟩ = some (.bool false) := (blk_cell BK373.out 1).trans rfl; have hcz90_2 : w89.cell? ⟨gb373, 2, none⟩ = some (.string (⟨#[]⟩ : ByteArray)) := (blk_cell BK373.out 2).trans rfl; have hcz90_3 : w89.cell? ⟨gb373, 3, none⟩ = some (.string (⟨#[]⟩ : ByteArray)) := (blk_cell BK373.out 3).trans rfl; have hfz90_0 := blk_frozen BK373.out 0; have hfz90_1 := blk_frozen BK373.out 1; have hfz90_2 := blk_frozen BK373.out 2; have hfz90_3 := blk_frozen BK373.out 3) | (go_at_call 17; (try (rename_i hK_; simp only [List.append] at hK_)); (with_reducible refine (targumref4_Text.calls kj26 (wrap64 (a0)) t374 _ A38.out).mono ?_); rintro e w91 ⟨rfl, hb⟩; have n0_ := Aside0.mk (blk_below (g := gb373) (o := .cells #[.int .i64 t368, .bool t369, .string t370, .string t371] 28 (0, 0)) bk hb); have n1_ := Aside0.mk (below_step bl hb); clear BK373; clear HB; have BK373 := n0_; have HB := n1_; clear n0_ n1_; (try clear hb); (try clear hb2); (try clear hk); (try clear hi)))
                    repeat (go_quiet (first | (go_at_call 9; (try (rename_i hK_; simp only [List.append] at hK_)); (with_reducible refine (num12_Int.calls kj26 (x10_6 ++ x11_3) t362 true _ ?side1 A30.out).mono ?_); (case side1 => exact Go.Proofs.YtbjlcipamdgnjaaDoor.Room.PowTab_below HG.out bl); rintro e w85 ⟨rfl, hb⟩; have n0_ := Aside0.mk (below_step bl hb); clear HB; have HB := n0_; clear n0_; (try clear hb); (try clear hb2); (try clear hk); (try clear hi)) | (go_at_call 9; (try (rename_i hK_; simp only [List.append] at hK_)); (with_reducible refine (num12_Int.calls kj26 ((x14_26 ++ x10_6) ++ x11_3) t364 t365 _ ?side1 A33.out).mono ?_); (case side1 => exact Go.Proofs.YtbjlcipamdgnjaaDoor.Room.PowTab_below HG.out bl); rintro e w86 ⟨rfl, hb⟩; have n0_ := Aside0.mk (below_step bl hb); clear HB; have HB := n0_; clear n0_; (try clear hb); (try clear hb2); (try clear hk); (try clear hi)) | (go_at_call 9; (try (rename_i hK_; simp only [List.append] at hK_)); (with_reducible refine (num12_Int.calls kj26 ((x10_6 ++ x11_3) ++ (⟨#[95]⟩ : ByteArray)) t366 t367 _ ?side1 A35.out).mono ?_); (case side1 => exact Go.Proofs.YtbjlcipamdgnjaaDoor.Room.PowTab_below HG.out bl); rintro e w87 ⟨rfl, hb⟩; have n0_ := Aside0.mk (below_step bl hb); clear HB; have HB := n0_; clear n0_; (try clear hb); (try clear hb2); (try clear hk); (try clear hi)) | (go_at_call 11; (try (rename_i hK_; simp only [List.append] at hK_)); (with_reducible refine (num12_Float.calls kj26 (x10_6 ++ x11_3) t368 t369 t370 t371 t372 _ ?side1 A36.out).mono ?_); (case side1 => exact Go.Proofs.YtbjlcipamdgnjaaDoor.Room.PowTab_below HG.out bl); rintro e w88 ⟨rfl, hb⟩; have n0_ := Aside0.mk (below_step bl hb); clear HB; have HB := n0_; clear n0_; (try clear hb); (try clear hb2); (try clear hk); (try clear hi)) | ((with_reducible refine gate_dst (N := 21) rfl ?_); refine box_event ?hg (N := 21) ?hd (cs := #[.int .i64 0, .bool false, .string (⟨#[]⟩ : ByteArray), .string (⟨#[]⟩ : ByteArray)]) (t := 28) ?hr ?_; (case hd => rfl); (case hg => rfl); (case hr => first | (go_simp; done) | (go_simp; rfl)); intro gb373 hg w89 hbox hb; have n0_ := Aside0.mk (below_step bl hb); have n1_ := Aside0.mk (hbox); have n2_ := Aside0.mk ((by rw [hg]; exact (below_size bl) : w.heap.size ≤ gb373)); have n3_ := Aside0.mk ((by rw [hg]; exact (below_size bl) : w.heap.size ≤ gb373)); clear HB; have HB := n0_; have BK373 := n1_; have GW373 := n2_; have GE373 := n3_; clear n0_ n1_ n2_ n3_; clear hb hbox hg; have hcz90_0 : w89.cell? ⟨gb373, 0, none⟩ = some (.int .i64 0) := (blk_cell BK373.out 0).trans rfl; have hcz90_1 : w89.cell? ⟨gb373, 1, none⟩ = some (.bool false) := (blk_cell BK373.out 1).trans rfl; have hcz90_2 : w89.cell? ⟨gb373, 2, none⟩ = some (.string (⟨#[]⟩ : ByteArray)) := (blk_cell BK373.out 2).trans rfl; have hcz90_3 : w89.cell? ⟨gb373, 3, none⟩ = some (.string (⟨#[]⟩ : ByteArray)) := (blk_cell BK373.out 3).trans rfl; have hfz90_0 := blk_frozen BK373.out 0; have hfz90_1 := blk_frozen BK373.out 1; have hfz90_2 := blk_frozen BK373.out 2; have hfz90_3 := blk_frozen BK373.out 3) | (go_at_call 17; (try (rename_i hK_; simp only [List.append] at hK_)); (with_reducible refine (targumref4_Text.calls kj26 (wrap64 (a0)) t374 _ A38.out).mono ?_); rintro e w91 ⟨rfl, hb⟩; have n0_ := Aside0.mk (blk_below (g := gb373) (o := .cells #[.int .i64 t368, .bool t369, .string t370, .string t371] 28 (0, 0)) bk hb); have n1_ := Aside0.mk (below_step bl hb); clear BK373; clear HB; have BK373 := n0_; have HB := n1_; clear n0_ n1_; (try clear hb); (try clear hb2); (try clear hk); (try clear hi))); try go_wp2_with (first | (go_at_call 9; (try (rename_i hK_; simp only [List.append] at hK_)); (with_reducible refine (num12_Int.calls kj26 (x10_6 ++ x11_3) t362 true _ ?side1 A30.out).mono ?_); (case side1 => exact Go.Proofs.YtbjlcipamdgnjaaDoor.Room.PowTab_below HG.out bl); rintro e w85 ⟨rfl, hb⟩; have n0_ := Aside0.mk (below_step bl hb); clear HB; have HB := n0_; clear n0_; (try clear hb); (try clear hb2); (try clear hk); (try clear hi)) | (go_at_call 9; (try (rename_i hK_; simp only [List.append] at hK_)); (with_reducible refine (num12_Int.calls kj26 ((x14_26 ++ x10_6) ++ x11_3) t364 t365 _ ?side1 A33.out).mono ?_); (case side1 => exact Go.Proofs.YtbjlcipamdgnjaaDoor.Room.PowTab_below HG.out bl); rintro e w86 ⟨rfl, hb⟩; have n0_ := Aside0.mk (below_step bl hb); clear HB; have HB := n0_; clear n0_; (try clear hb); (try clear hb2); (try clear hk); (try clear hi)) | (go_at_call 9; (try (rename_i hK_; simp only [List.append] at hK_)); (with_reducible refine (num12_Int.calls kj26 ((x10_6 ++ x11_3) ++ (⟨#[95]⟩ : ByteArray)) t366 t367 _ ?side1 A35.out).mono ?_); (case side1 => exact Go.Proofs.YtbjlcipamdgnjaaDoor.Room.PowTab_below HG.out bl); rintro e w87 ⟨rfl, hb⟩; have n0_ := Aside0.mk (below_step bl hb); clear HB; have HB := n0_; clear n0_; (try clear hb); (try clear hb2); (try clear hk); (try clear hi)) | (go_at_call 11; (try (rename_i hK_; simp only [List.append] at hK_)); (with_reducible refine (num12_Float.calls kj26 (x10_6 ++ x11_3) t368 t369 t370 t371 t372 _ ?side1 A36.out).mono ?_); (case side1 => exact Go.Proofs.YtbjlcipamdgnjaaDoor.Room.PowTab_below HG.out bl); rintro e w88 ⟨rfl, hb⟩; have n0_ := Aside0.mk (below_step bl hb); clear HB; have HB := n0_; clear n0_; (try clear hb); (try clear hb2); (try clear hk); (try clear hi)) | ((with_reducible refine gate_dst (N := 21) rfl ?_); refine box_event ?hg (N := 21) ?hd (cs := #[.int .i64 0, .bool false, .string (⟨#[]⟩ : ByteArray), .string (⟨#[]⟩ : ByteArray)]) (t := 28) ?hr ?_; (case hd => rfl); (case hg => rfl); (case hr => first | (go_simp; done) | (go_simp; rfl)); intro gb373 hg w89 hbox hb; have n0_ := Aside0.mk (below_step bl hb); have n1_ := Aside0.mk (hbox); have n2_ := Aside0.mk ((by rw [hg]; exact (below_size bl) : w.heap.size ≤ gb373)); have n3_ := Aside0.mk ((by rw [hg]; exact (below_size bl) : w.heap.size ≤ gb373)); clear HB; have HB := n0_; have BK373 := n1_; have GW373 := n2_; have GE373 := n3_; clear n0_ n1_ n2_ n3_; clear hb hbox hg; have hcz90_0 : w89.cell? ⟨gb373, 0, none⟩ = some (.int .i64 0) := (blk_cell BK373.out 0).trans rfl; have hcz90_1 : w89.cell? ⟨gb373, 1, none⟩ = some (.bool false) := (blk_cell BK373.out 1).trans rfl; have hcz90_2 : w89.cell? ⟨gb373, 2, none⟩ = some (.string (⟨#[]⟩ : ByteArray)) := (blk_cell BK373.out 2).trans rfl; have hcz90_3 : w89.cell? ⟨gb373, 3, none⟩ = some (.string (⟨#[]⟩ : ByteArray)) := (blk_cell BK373.out 3).trans rfl; have hfz90_0 := blk_frozen BK373.out 0; have hfz90_1 := blk_frozen BK373.out 1; have hfz90_2 := blk_frozen BK373.out 2; have hfz90_3 := blk_frozen BK373.out 3) | (go_at_call 17; (try (rename_i hK_; simp only [List.append] at hK_)); (with_reducible refine (targumref4_Text.calls kj26 (wrap64 (a0)) t374 _ A38.out).mono ?_); rintro e w91 ⟨rfl, hb⟩; have n0_ := Aside0.mk (blk_below (g := gb373) (o := .cells #[.int .i64 t368, .bool t369, .string t370, .string t371] 28 (0, 0)) bk hb); have n1_ := Aside0.mk (below_step bl hb); clear BK373; clear HB; have BK373 := n0_; have HB := n1_; clear n0_ n1_; (try clear hb); (try clear hb2); (try clear hk); (try clear hi))))
                    go_ret
                    exact ⟨by first | rfl | (simp [errW_none, errW_some] <;> rfl) | (simp [*, errW_none, errW_some] <;> rfl) | ((generalize ByteArray.toList _ = z_); cases z_ <;> first | rfl | (simp; done)), bl⟩
                  case' y13 =>
                   rw [if_neg c39] at H
                   have c39b0 : (t362.toList == t374.toList) = false := beq_eq_false_iff_ne.mpr c39
                   have c39b1 : (t362.toList != t374.toList) = true := bne_iff_ne.mpr c39
                   obtain rfl := Option.some.inj H
                   go_wp2_with (first | (go_at_call 9; (try (rename_i hK_; simp only [List.append] at hK_)); (with_reducible refine (num12_Int.calls kj26 (x10_6 ++ x11_3) t362 true _ ?side1 A30.out).mono ?_); (case side1 => exact Go.Proofs.YtbjlcipamdgnjaaDoor.Room.PowTab_below HG.out bl); rintro e w92 ⟨rfl, hb⟩; have n0_ := Aside0.mk (below_step bl hb); clear HB; have HB := n0_; clear n0_; (try clear hb); (try clear hb2); (try clear hk); (try clear hi)) | (go_at_call 9; (try (rename_i hK_; simp only [List.append] at hK_)); (with_reducible refine (num12_Int.calls kj26 ((x14_26 ++ x10_6) ++ x11_3) t364 t365 _ ?side1 A33.out).mono ?_); (case side1 => exact Go.Proofs.YtbjlcipamdgnjaaDoor.Room.PowTab_below HG.out bl); rintro e w93 ⟨rfl, hb⟩; have n0_ := Aside0.mk (below_step bl hb); clear HB; have HB := n0_; clear n0_; (try clear hb); (try clear hb2); (try clear hk); (try clear hi)) | (go_at_call 9; (try (rename_i hK_; simp only [List.append] at hK_)); (with_reducible refine (num12_Int.calls kj26 ((x10_6 ++ x11_3) ++ (⟨#[95]⟩ : ByteArray)) t366 t367 _ ?side1 A35.out).mono ?_); (case side1 => exact Go.Proofs.YtbjlcipamdgnjaaDoor.Room.PowTab_below HG.out bl); rintro e w94 ⟨rfl, hb⟩; have n0_ := Aside0.mk (below_step bl hb); clear HB; have HB := n0_; clear n0_; (try clear hb); (try clear hb2); (try clear hk); (try clear hi)) | (go_at_call 11; (try (rename_i hK_; simp only [List.append] at hK_)); (with_reducible refine (num12_Float.calls kj26 (x10_6 ++ x11_3) t368 t369 t370 t371 t372 _ ?side1 A36.out).mono ?_); (case side1 => exact Go.Proofs.YtbjlcipamdgnjaaDoor.Room.PowTab_below HG.out bl); rintro e w95 ⟨rfl, hb⟩; have n0_ := Aside0.mk (below_step bl hb); clear HB; have HB := n0_; clear n0_; (try clear hb); (try clear hb2); (try clear hk); (try clear hi)) | ((with_reducible refine gate_dst (N := 21) rfl ?_); refine box_event ?hg (N := 21) ?hd (cs := #[.int .i64 0, .bool false, .string (⟨#[]⟩ : ByteArray), .string (⟨#[]⟩ : ByteArray)]) (t := 28) ?hr ?_; (case hd => rfl); (case hg => rfl); (case hr => first | (go_simp; done) | (go_simp; rfl)); intro gb373 hg w96 hbox hb; have n0_ := Aside0.mk (below_step bl hb); have n1_ := Aside0.mk (hbox); have n2_ := Aside0.mk ((by rw [hg]; exact (below_size bl) : w.heap.size ≤ gb373)); have n3_ := Aside0.mk ((by rw [hg]; exact (below_size bl) : w.heap.size ≤ gb373)); clear HB; have HB := n0_; have BK373 := n1_; have GW373 := n2_; have GE373 := n3_; clear n0_ n1_ n2_ n3_; clear hb hbox hg; have hcz97_0 : w96.cell? ⟨gb373, 0, none⟩ = some (.int .i64 0) := (blk_cell BK373.out 0).trans rfl; have hcz97_1 : w96.cell? ⟨gb373, 1, none⟩ = some (.bool false) := (blk_cell BK373.out 1).trans rfl; have hcz97_2 : w96.cell? ⟨gb373, 2, none⟩ = some (.string (⟨#[]⟩ : ByteArray)) := (blk_cell BK373.out 2).trans rfl; have hcz97_3 : w96.cell? ⟨gb373, 3, none⟩ = some (.string (⟨#[]⟩ : ByteArray)) := (blk_cell BK373.out 3).trans rfl; have hfz97_0 := blk_frozen BK373.out 0; have hfz97_1 := blk_frozen BK373.out 1; have hfz97_2 := blk_frozen BK373.out 2; have hfz97_3 := blk_frozen BK373.out 3) | (go_at_call 17; (try (rename_i hK_; simp only [List.append] at hK_)); (with_reducible refine (targumref4_Text.calls kj26 (wrap64 (a0)) t374 _ A38.out).mono ?_); rintro e w98 ⟨rfl, hb⟩; have n0_ := Aside0.mk (blk_below (g := gb373) (o := .cells #[.int .i64 t368, .bool t369, .string t370, .string t371] 28 (0, 0)) bk hb); have n1_ := Aside0.mk (below_step bl hb); clear BK373; clear HB; have BK373 := n0_; have HB := n1_; clear n0_ n1_; (try clear hb); (try clear hb2); (try clear hk); (try clear hi)))
                   repeat (go_quiet (first | (go_at_call 9; (try (rename_i hK_; simp only [List.append] at hK_)); (with_reducible refine (num12_Int.calls kj26 (x10_6 ++ x11_3) t362 true _ ?side1 A30.out).mono ?_); (case side1 => exact Go.Proofs.YtbjlcipamdgnjaaDoor.Room.PowTab_below HG.out bl); rintro e w92 ⟨rfl, hb⟩; have n0_ := Aside0.mk (below_step bl hb); clear HB; have HB := n0_; clear n0_; (try clear hb); (try clear hb2); (try clear hk); (try clear hi)) | (go_at_call 9; (try (rename_i hK_; simp only [List.append] at hK_)); (with_reducible refine (num12_Int.calls kj26 ((x14_26 ++ x10_6) ++ x11_3) t364 t365 _ ?side1 A33.out).mono ?_); (case side1 => exact Go.Proofs.YtbjlcipamdgnjaaDoor.Room.PowTab_below HG.out bl); rintro e w93 ⟨rfl, hb⟩; have n0_ := Aside0.mk (below_step bl hb); clear HB; have HB := n0_; clear n0_; (try clear hb); (try clear hb2); (try clear hk); (try clear hi)) | (go_at_call 9; (try (rename_i hK_; simp only [List.append] at hK_)); (with_reducible refine (num12_Int.calls kj26 ((x10_6 ++ x11_3) ++ (⟨#[95]⟩ : ByteArray)) t366 t367 _ ?side1 A35.out).mono ?_); (case side1 => exact Go.Proofs.YtbjlcipamdgnjaaDoor.Room.PowTab_below HG.out bl); rintro e w94 ⟨rfl, hb⟩; have n0_ := Aside0.mk (below_step bl hb); clear HB; have HB := n0_; clear n0_; (try clear hb); (try clear hb2); (try clear hk); (try clear hi)) | (go_at_call 11; (try (rename_i hK_; simp only [List.append] at hK_)); (with_reducible refine (num12_Float.calls kj26 (x10_6 ++ x11_3) t368 t369 t370 t371 t372 _ ?side1 A36.out).mono ?_); (case side1 => exact Go.Proofs.YtbjlcipamdgnjaaDoor.Room.PowTab_below HG.out bl); rintro e w95 ⟨rfl, hb⟩; have n0_ := Aside0.mk (below_step bl hb); clear HB; have HB := n0_; clear n0_; (try clear hb); (try clear hb2); (try clear hk); (try clear hi)) | ((with_reducible refine gate_dst (N := 21) rfl ?_); refine box_event ?hg (N := 21) ?hd (cs := #[.int .i64 0, .bool false, .string (⟨#[]⟩ : ByteArray), .string (⟨#[]⟩ : ByteArray)]) (t := 28) ?hr ?_; (case hd => rfl); (case hg => rfl); (case hr => first | (go_simp; done) | (go_simp; rfl)); intro gb373 hg w96 hbox hb; have n0_ := Aside0.mk (below_step bl hb); have n1_ := Aside0.mk (hbox); have n2_ := Aside0.mk ((by rw [hg]; exact (below_size bl) : w.heap.size ≤ gb373)); have n3_ := Aside0.mk ((by rw [hg]; exact (below_size bl) : w.heap.size ≤ gb373)); clear HB; have HB := n0_; have BK373 := n1_; have GW373 := n2_; have GE373 := n3_; clear n0_ n1_ n2_ n3_; clear hb hbox hg; have hcz97_0 : w96.cell? ⟨gb373, 0, none⟩ = some (.int .i64 0) := (blk_cell BK373.out 0).trans rfl; have hcz97_1 : w96.cell? ⟨gb373, 1, none⟩ = some (.bool false) := (blk_cell BK373.out 1).trans rfl; have hcz97_2 : w96.cell? ⟨gb373, 2, none⟩ = some (.string (⟨#[]⟩ : ByteArray)) := (blk_cell BK373.out 2).trans rfl; have hcz97_3 : w96.cell? ⟨gb373, 3, none⟩ = some (.string (⟨#[]⟩ : ByteArray)) := (blk_cell BK373.out 3).trans rfl; have hfz97_0 := blk_frozen BK373.out 0; have hfz97_1 := blk_frozen BK373.out 1; have hfz97_2 := blk_frozen BK373.out 2; have hfz97_3 := blk_frozen BK373.out 3) | (go_at_call 17; (try (rename_i hK_; simp only [List.append] at hK_)); (with_reducible refine (targumref4_Text.calls kj26 (wrap64 (a0)) t374 _ A38.out).mono ?_); rintro e w98 ⟨rfl, hb⟩; have n0_ := Aside0.mk (blk_below (g := gb373) (o := .cells #[.int .i64 t368, .bool t369, .string t370, .string t371] 28 (0, 0)) bk hb); have n1_ := Aside0.mk (below_step bl hb); clear BK373; clear HB; have BK373 := n0_; have HB := n1_; clear n0_ n1_; (try clear hb); (try clear hb2); (try clear hk); (try clear hi))); try go_wp2_with (first | (go_at_call 9; (try (rename_i hK_; simp only [List.append] at hK_)); (with_reducible refine (num12_Int.calls kj26 (x10_6 ++ x11_3) t362 true _ ?side1 A30.out).mono ?_); (case side1 => exact Go.Proofs.YtbjlcipamdgnjaaDoor.Room.PowTab_below HG.out bl); rintro e w92 ⟨rfl, hb⟩; have n0_ := Aside0.mk (below_step bl hb); clear HB; have HB := n0_; clear n0_; (try clear hb); (try clear hb2); (try clear hk); (try clear hi)) | (go_at_call 9; (try (rename_i hK_; simp only [List.append] at hK_)); (with_reducible refine (num12_Int.calls kj26 ((x14_26 ++ x10_6) ++ x11_3) t364 t365 _ ?side1 A33.out).mono ?_); (case side1 => exact Go.Proofs.YtbjlcipamdgnjaaDoor.Room.PowTab_below HG.out bl); rintro e w93 ⟨rfl, hb⟩; have n0_ := Aside0.mk (below_step bl hb); clear HB; have HB := n0_; clear n0_; (try clear hb); (try clear hb2); (try clear hk); (try clear hi)) | (go_at_call 9; (try (rename_i hK_; simp only [List.append] at hK_)); (with_reducible refine (num12_Int.calls kj26 ((x10_6 ++ x11_3) ++ (⟨#[95]⟩ : ByteArray)) t366 t367 _ ?side1 A35.out).mono ?_); (case side1 => exact Go.Proofs.YtbjlcipamdgnjaaDoor.Room.PowTab_below HG.out bl); rintro e w94 ⟨rfl, hb⟩; have n0_ := Aside0.mk (below_step bl hb); clear HB; have HB := n0_; clear n0_; (try clear hb); (try clear hb2); (try clear hk); (try clear hi)) | (go_at_call 11; (try (rename_i hK_; simp only [List.append] at hK_)); (with_reducible refine (num12_Float.calls kj26 (x10_6 ++ x11_3) t368 t369 t370 t371 t372 _ ?side1 A36.out).mono ?_); (case side1 => exact Go.Proofs.YtbjlcipamdgnjaaDoor.Room.PowTab_below HG.out bl); rintro e w95 ⟨rfl, hb⟩; have n0_ := Aside0.mk (below_step bl hb); clear HB; have HB := n0_; clear n0_; (try clear hb); (try clear hb2); (try clear hk); (try clear hi)) | ((with_reducible refine gate_dst (N := 21) rfl ?_); refine box_event ?hg (N := 21) ?hd (cs := #[.int .i64 0, .bool false, .string (⟨#[]⟩ : ByteArray), .string (⟨#[]⟩ : ByteArray)]) (t := 28) ?hr ?_; (case hd => rfl); (case hg => rfl); (case hr => first | (go_simp; done) | (go_simp; rfl)); intro gb373 hg w96 hbox hb; have n0_ := Aside0.mk (below_step bl hb); have n1_ := Aside0.mk (hbox); have n2_ := Aside0.mk ((by rw [hg]; exact (below_size bl) : w.heap.size ≤ gb373)); have n3_ := Aside0.mk ((by rw [hg]; exact (below_size bl) : w.heap.size ≤ gb373)); clear HB; have HB := n0_; have BK373 := n1_; have GW373 := n2_; have GE373 := n3_; clear n0_ n1_ n2_ n3_; clear hb hbox hg; have hcz97_0 : w96.cell? ⟨gb373, 0, none⟩ = some (.int .i64 0) := (blk_cell BK373.out 0).trans rfl; have hcz97_1 : w96.cell? ⟨gb373, 1, none⟩ = some (.bool false) := (blk_cell BK373.out 1).trans rfl; have hcz97_2 : w96.cell? ⟨gb373, 2, none⟩ = some (.string (⟨#[]⟩ : ByteArray)) := (blk_cell BK373.out 2).trans rfl; have hcz97_3 : w96.cell? ⟨gb373, 3, none⟩ = some (.string (⟨#[]⟩ : ByteArray)) := (blk_cell BK373.out 3).trans rfl; have hfz97_0 := blk_frozen BK373.out 0; have hfz97_1 := blk_frozen BK373.out 1; have hfz97_2 := blk_frozen BK373.out 2; have hfz97_3 := blk_frozen BK373.out 3) | (go_at_call 17; (try (rename_i hK_; simp only [List.append] at hK_)); (with_reducible refine (targumref4_Text.calls kj26 (wrap64 (a0)) t374 _ A38.out).mono ?_); rintro e w98 ⟨rfl, hb⟩; have n0_ := Aside0.mk (blk_below (g := gb373) (o := .cells #[.int .i64 t368, .bool t369, .string t370, .string t371] 28 (0, 0)) bk hb); have n1_ := Aside0.mk (below_step bl hb); clear BK373; clear HB; have BK373 := n0_; have HB := n1_; clear n0_ n1_; (try clear hb); (try clear hb2); (try clear hk); (try clear hi))))
                   go_ret
                   exact ⟨by first | rfl | (simp [errW_none, errW_some] <;> rfl) | (simp [*, errW_none, errW_some] <;> rfl) | ((generalize ByteArray.toList _ = z_); cases z_ <;> first | rfl | (simp; done)), bl⟩
                 case' y12 =>
                  replace c37 := Bool.eq_false_iff.mpr c37
                  subst c37
                  have H1 : (some false) = some r := by rw [if_neg (show ¬ (false = true) by decide)] at H; exact H
                  clear H
                  have H := H1
                  clear H1
                  obtain rfl := Option.some.inj H
                  go_wp2_with (first | (go_at_call 9; (try (rename_i hK_; simp only [List.append] at hK_)); (with_reducible refine (num12_Int.calls kj26 (x10_6 ++ x11_3) t362 false _ ?side1 A30.out).mono ?_); (case side1 => exact Go.Proofs.YtbjlcipamdgnjaaDoor.Room.PowTab_below HG.out bl); rintro e w99 ⟨rfl, hb⟩; have n0_ := Aside0.mk (below_step bl hb); clear HB; have HB := n0_; clear n0_; (try clear hb); (try clear hb2); (try clear hk); (try clear hi)) | (go_at_call 9; (try (rename_i hK_; simp only [List.append] at hK_)); (with_reducible refine (num12_Int.calls kj26 ((x14_26 ++ x10_6) ++ x11_3) t364 t365 _ ?side1 A33.out).mono ?_); (case side1 => exact Go.Proofs.YtbjlcipamdgnjaaDoor.Room.PowTab_below HG.out bl); rintro e w100 ⟨rfl, hb⟩; have n0_ := Aside0.mk (below_step bl hb); clear HB; have HB := n0_; clear n0_; (try clear hb); (try clear hb2); (try clear hk); (try clear hi)) | (go_at_call 9; (try (rename_i hK_; simp only [List.append] at hK_)); (with_reducible refine (num12_Int.calls kj26 ((x10_6 ++ x11_3) ++ (⟨#[95]⟩ : ByteArray)) t366 t367 _ ?side1 A35.out).mono ?_); (case side1 => exact Go.Proofs.YtbjlcipamdgnjaaDoor.Room.PowTab_below HG.out bl); rintro e w101 ⟨rfl, hb⟩; have n0_ := Aside0.mk (below_step bl hb); clear HB; have HB := n0_; clear n0_; (try clear hb); (try clear hb2); (try clear hk); (try clear hi)) | (go_at_call 11; (try (rename_i hK_; simp only [List.append] at hK_)); (with_reducible refine (num12_Float.calls kj26 (x10_6 ++ x11_3) t368 t369 t370 t371 t372 _ ?side1 A36.out).mono ?_); (case side1 => exact Go.Proofs.YtbjlcipamdgnjaaDoor.Room.PowTab_below HG.out bl); rintro e w102 ⟨rfl, hb⟩; have n0_ := Aside0.mk (below_step bl hb); clear HB; have HB := n0_; clear n0_; (try clear hb); (try clear hb2); (try clear hk); (try clear hi)) | ((with_reducible refine gate_dst (N := 21) rfl ?_); refine box_event ?hg (N := 21) ?hd (cs := #[.int .i64 0, .bool false, .string (⟨#[]⟩ : ByteArray), .string (⟨#[]⟩ : ByteArray)]) (t := 28) ?hr ?_; (case hd => rfl); (case hg => rfl); (case hr => first | (go_simp; done) | (go_simp; rfl)); intro gb373 hg w103 hbox hb; have n0_ := Aside0.mk (below_step bl hb); have n1_ := Aside0.mk (hbox); have n2_ := Aside0.mk ((by rw [hg]; exact (below_size bl) : w.heap.size ≤ gb373)); have n3_ := Aside0.mk ((by rw [hg]; exact (below_size bl) : w.heap.size ≤ gb373)); clear HB; have HB := n0_; have BK373 := n1_; have GW373 := n2_; have GE373 := n3_; clear n0_ n1_ n2_ n3_; clear hb hbox hg; have hcz104_0 : w103.cell? ⟨gb373, 0, none⟩ = some (.int .i64 0) := (blk_cell BK373.out 0).trans rfl; have hcz104_1 : w103.cell? ⟨gb373, 1, none⟩ = some (.bool false) := (blk_cell BK373.out 1).trans rfl; have hcz104_2 : w103.cell? ⟨gb373, 2, none⟩ = some (.string (⟨#[]⟩ : ByteArray)) := (blk_cell BK373.out 2).trans rfl; have hcz104_3 : w103.cell? ⟨gb373, 3, none⟩ = some (.string (⟨#[]⟩ : ByteArray)) := (blk_cell BK373.out 3).trans rfl; have hfz104_0 := blk_frozen BK373.out 0; have hfz104_1 := blk_frozen BK373.out 1; have hfz104_2 := blk_frozen BK373.out 2; have hfz104_3 := blk_frozen BK373.out 3))
                  skip
                 case x17 | y17 | y16 | y12 =>
                  as_aux_lemma =>
                   repeat (go_quiet (first | (go_at_call 9; (try (rename_i hK_; simp only [List.append] at hK_)); (with_reducible refine (num12_Int.calls _ _ _ _ _ ?side1 A30.out).mono ?_); (case side1 => exact Go.Proofs.YtbjlcipamdgnjaaDoor.Room.PowTab_below HG.out bl); rintro e w46 ⟨rfl, hb⟩; have n0_ := Aside0.mk (below_step bl hb); clear HB; have HB := n0_; clear n0_; (try clear hb); (try clear hb2); (try clear hk); (try clear hi)) | (go_at_call 9; (try (rename_i hK_; simp only [List.append] at hK_)); (with_reducible refine (num12_Int.calls _ _ _ _ _ ?side1 A33.out).mono ?_); (case side1 => exact Go.Proofs.YtbjlcipamdgnjaaDoor.Room.PowTab_below HG.out bl); rintro e w47 ⟨rfl, hb⟩; have n0_ := Aside0.mk (below_step bl hb); clear HB; have HB := n0_; clear n0_; (try clear hb); (try clear hb2); (try clear hk); (try clear hi)) | (go_at_call 9; (try (rename_i hK_; simp only [List.append] at hK_)); (with_reducible refine (num12_Int.calls _ _ _ _ _ ?side1 A35.out).mono ?_); (case side1 => exact Go.Proofs.YtbjlcipamdgnjaaDoor.Room.PowTab_below HG.out bl); rintro e w48 ⟨rfl, hb⟩; have n0_ := Aside0.mk (below_step bl hb); clear HB; have HB := n0_; clear n0_; (try clear hb); (try clear hb2); (try clear hk); (try clear hi)) | (go_at_call 11; (try (rename_i hK_; simp only [List.append] at hK_)); (with_reducible refine (num12_Float.calls _ _ _ _ _ _ _ _ ?side1 A36.out).mono ?_); (case side1 => exact Go.Proofs.YtbjlcipamdgnjaaDoor.Room.PowTab_below HG.out bl); rintro e w49 ⟨rfl, hb⟩; have n0_ := Aside0.mk (below_step bl hb); clear HB; have HB := n0_; clear n0_; (try clear hb); (try clear hb2); (try clear hk); (try clear hi)) | ((with_reducible refine gate_dst (N := 21) rfl ?_); refine box_event ?hg (N := 21) ?hd (cs := #[.int .i64 0, .bool false, .string (⟨#[]⟩ : ByteArray), .string (⟨#[]⟩ : ByteArray)]) (t := 28) ?hr ?_; (case hd => rfl); (case hg => rfl); (case hr => first | (go_simp; done) | (go_simp; rfl)); intro gb373 hg w50 hbox hb; have n0_ := Aside0.mk (below_step bl hb); have n1_ := Aside0.mk (hbox); have n2_ := Aside0.mk ((by rw [hg]; exact (below_size bl) : w.heap.size ≤ gb373)); have n3_ := Aside0.mk ((by rw [hg]; exact (below_size bl) : w.heap.size ≤ gb373)); clear HB; have HB := n0_; have BK373 := n1_; have GW373 := n2_; have GE373 := n3_; clear n0_ n1_ n2_ n3_; clear hb hbox hg; have hcz51_0 : w50.cell? ⟨gb373, 0, none⟩ = some (.int .i64 0) := (blk_cell BK373.out 0).trans rfl; have hcz51_1 : w50.cell? ⟨gb373, 1, none⟩ = some (.bool false) := (blk_cell BK373.out 1).trans rfl; have hcz51_2 : w50.cell? ⟨gb373, 2, none⟩ = some (.string (⟨#[]⟩ : ByteArray)) := (blk_cell BK373.out 2).trans rfl; have hcz51_3 : w50.cell? ⟨gb373, 3, none⟩ = some (.string (⟨#[]⟩ : ByteArray)) := (blk_cell BK373.out 3).trans rfl; have hfz51_0 := blk_frozen BK373.out 0; have hfz51_1 := blk_frozen BK373.out 1; have hfz51_2 := blk_frozen BK373.out 2; have hfz51_3 := blk_frozen BK373.out 3) | (go_at_call 17; (try (rename_i hK_; simp only [List.append] at hK_)); (with_reducible refine (targumref4_Text.calls _ _ _ _ A38.out).mono ?_); rintro e w52 ⟨rfl, hb⟩; have n0_ := Aside0.mk (blk_below (g := gb373) (o := .cells #[.int .i64 t368, .bool t369, .string t370, .string t371] 28 (0, 0)) bk hb); have n1_ := Aside0.mk (below_step bl hb); clear BK373; clear HB; have BK373 := n0_; have HB := n1_; clear n0_ n1_; (try clear hb); (try clear hb2); (try clear hk); (try clear hi); clear A38) | (go_at_call 17; (try (rename_i hK_; simp only [List.append] at hK_)); (with_reducible refine (targumref4_Text.calls _ _ _ _ A42.out).mono ?_); rintro e w53 ⟨rfl, hb⟩; have n0_ := Aside0.mk (blk_below (g := gb373) (o := .cells #[.int .i64 t368, .bool t369, .string t370, .string t371] 28 (0, 0)) bk hb); have n1_ := Aside0.mk (below_step bl hb); clear BK373; clear HB; have BK373 := n0_; have HB := n1_; clear n0_ n1_; (try clear hb); (try clear hb2); (try clear hk); (try clear hi); clear A42) | (go_at_call 18; (try (rename_i hK_; simp only [List.append] at hK_)); (with_reducible refine (targumref4_Norm.calls _ _ _ _ _ A43.out).mono ?_); rintro e w' ⟨rfl, ⟨nd, rfl⟩⟩; (try first | exact ⟨rfl, _, World.drewN_drewN _ _ _⟩ | exact ⟨rfl, _, Eq.trans (World.drewN_drewN _ _ _) (congrArg (World.drewN _) (Nat.add_assoc _ _ _))⟩))); try go_wp2_with (first | (go_at_call 9; (try (rename_i hK_; simp only [List.append] at hK_)); (with_reducible refine (num12_Int.calls _ _ _ _ _ ?side1 A30.out).mono ?_); (case side1 => exact Go.Proofs.YtbjlcipamdgnjaaDoor.Room.PowTab_below HG.out bl); rintro e w46 ⟨rfl, hb⟩; have n0_ := Aside0.mk (below_step bl hb); clear HB; have HB := n0_; clear n0_; (try clear hb); (try clear hb2); (try clear hk); (try clear hi)) | (go_at_call 9; (try (rename_i hK_; simp only [List.append] at hK_)); (with_reducible refine (num12_Int.calls _ _ _ _ _ ?side1 A33.out).mono ?_); (case side1 => exact Go.Proofs.YtbjlcipamdgnjaaDoor.Room.PowTab_below HG.out bl); rintro e w47 ⟨rfl, hb⟩; have n0_ := Aside0.mk (below_step bl hb); clear HB; have HB := n0_; clear n0_; (try clear hb); (try clear hb2); (try clear hk); (try clear hi)) | (go_at_call 9; (try (rename_i hK_; simp only [List.append] at hK_)); (with_reducible refine (num12_Int.calls _ _ _ _ _ ?side1 A35.out).mono ?_); (case side1 => exact Go.Proofs.YtbjlcipamdgnjaaDoor.Room.PowTab_below HG.out bl); rintro e w48 ⟨rfl, hb⟩; have n0_ := Aside0.mk (below_step bl hb); clear HB; have HB := n0_; clear n0_; (try clear hb); (try clear hb2); (try clear hk); (try clear hi)) | (go_at_call 11; (try (rename_i hK_; simp only [List.append] at hK_)); (with_reducible refine (num12_Float.calls _ _ _ _ _ _ _ _ ?side1 A36.out).mono ?_); (case side1 => exact Go.Proofs.YtbjlcipamdgnjaaDoor.Room.PowTab_below HG.out bl); rintro e w49 ⟨rfl, hb⟩; have n0_ := Aside0.mk (below_step bl hb); clear HB; have HB := n0_; clear n0_; (try clear hb); (try clear hb2); (try clear hk); (try clear hi)) | ((with_reducible refine gate_dst (N := 21) rfl ?_); refine box_event ?hg (N := 21) ?hd (cs := #[.int .i64 0, .bool false, .string (⟨#[]⟩ : ByteArray), .string (⟨#[]⟩ : ByteArray)]) (t := 28) ?hr ?_; (case hd => rfl); (case hg => rfl); (case hr => first | (go_simp; done) | (go_simp; rfl)); intro gb373 hg w50 hbox hb; have n0_ := Aside0.mk (below_step bl hb); have n1_ := Aside0.mk (hbox); have n2_ := Aside0.mk ((by rw [hg]; exact (below_size bl) : w.heap.size ≤ gb373)); have n3_ := Aside0.mk ((by rw [hg]; exact (below_size bl) : w.heap.size ≤ gb373)); clear HB; have HB := n0_; have BK373 := n1_; have GW373 := n2_; have GE373 := n3_; clear n0_ n1_ n2_ n3_; clear hb hbox hg; have hcz51_0 : w50.cell? ⟨gb373, 0, none⟩ = some (.int .i64 0) := (blk_cell BK373.out 0).trans rfl; have hcz51_1 : w50.cell? ⟨gb373, 1, none⟩ = some (.bool false) := (blk_cell BK373.out 1).trans rfl; have hcz51_2 : w50.cell? ⟨gb373, 2, none⟩ = some (.string (⟨#[]⟩ : ByteArray)) := (blk_cell BK373.out 2).trans rfl; have hcz51_3 : w50.cell? ⟨gb373, 3, none⟩ = some (.string (⟨#[]⟩ : ByteArray)) := (blk_cell BK373.out 3).trans rfl; have hfz51_0 := blk_frozen BK373.out 0; have hfz51_1 := blk_frozen BK373.out 1; have hfz51_2 := blk_frozen BK373.out 2; have hfz51_3 := blk_frozen BK373.out 3) | (go_at_call 17; (try (rename_i hK_; simp only [List.append] at hK_)); (with_reducible refine (targumref4_Text.calls _ _ _ _ A38.out).mono ?_); rintro e w52 ⟨rfl, hb⟩; have n0_ := Aside0.mk (blk_below (g := gb373) (o := .cells #[.int .i64 t368, .bool t369, .string t370, .string t371] 28 (0, 0)) bk hb); have n1_ := Aside0.mk (below_step bl hb); clear BK373; clear HB; have BK373 := n0_; have HB := n1_; clear n0_ n1_; (try clear hb); (try clear hb2); (try clear hk); (try clear hi); clear A38) | (go_at_call 17; (try (rename_i hK_; simp only [List.append] at hK_)); (with_reducible refine (targumref4_Text.calls _ _ _ _ A42.out).mono ?_); rintro e w53 ⟨rfl, hb⟩; have n0_ := Aside0.mk (blk_below (g := gb373) (o := .cells #[.int .i64 t368, .bool t369, .string t370, .string t371] 28 (0, 0)) bk hb); have n1_ := Aside0.mk (below_step bl hb); clear BK373; clear HB; have BK373 := n0_; have HB := n1_; clear n0_ n1_; (try clear hb); (try clear hb2); (try clear hk); (try clear hi); clear A42) | (go_at_call 18; (try (rename_i hK_; simp only [List.append] at hK_)); (with_reducible refine (targumref4_Norm.calls _ _ _ _ _ A43.out).mono ?_); rintro e w' ⟨rfl, ⟨nd, rfl⟩⟩; (try first | exact ⟨rfl, _, World.drewN_drewN _ _ _⟩ | exact ⟨rfl, _, Eq.trans (World.drewN_drewN _ _ _) (congrArg (World.drewN _) (Nat.add_assoc _ _ _))⟩))))
                   go_ret
                   exact ⟨by first | rfl | (simp [errW_none, errW_some] <;> rfl) | (simp [*, errW_none, errW_some] <;> rfl) | ((generalize ByteArray.toList _ = z_); cases z_ <;> first | rfl | (simp; done)), bl⟩
                ·rw [if_neg c34] at H
                 exact absurd H (by simp)
               ·rw [if_neg c32] at H
                exact absurd H (by simp)
              ·rw [if_neg c31] at H
               exact absurd H (by simp)
             ·rw [if_neg c29] at H
              exact absurd H (by simp)
 ·replace c6 := Bool.eq_false_iff.mpr c6
  subst c6
  have H1 : (some false) = some r := by rw [if_neg (show ¬ (false = true) by decide)] at H; exact H
  clear H
  have H := H1
  clear H1
  obtain rfl := Option.some.inj H
  go_enter Tryd.func5, Tryd.ntmps5
  go_wp2_with (first | (go_at_call 8; (try (rename_i hK_; simp only [List.append] at hK_)); (with_reducible refine (targumlaw8_known.calls k  false _ ?side1 A5.out).mono ?_); (case side1 => exact Go.Proofs.YtbjlcipamdgnjaaDoor.Room.PowTab_below HG.out bl); rintro e w105 ⟨rfl, hb⟩; have n0_ := Aside0.mk (below_step bl hb); clear HB; have HB := n0_; clear n0_; (try clear hb); (try clear hb2); (try clear hk); (try clear hi)))
  repeat (go_quiet (first | (go_at_call 8; (try (rename_i hK_; simp only [List.append] at hK_)); (with_reducible refine (targumlaw8_known.calls k  false _ ?side1 A5.out).mono ?_); (case side1 => exact Go.Proofs.YtbjlcipamdgnjaaDoor.Room.PowTab_below HG.out bl); rintro e w105 ⟨rfl, hb⟩; have n0_ := Aside0.mk (below_step bl hb); clear HB; have HB := n0_; clear n0_; (try clear hb); (try clear hb2); (try clear hk); (try clear hi))); try go_wp2_with (first | (go_at_call 8; (try (rename_i hK_; simp only [List.append] at hK_)); (with_reducible refine (targumlaw8_known.calls k  false _ ?side1 A5.out).mono ?_); (case side1 => exact Go.Proofs.YtbjlcipamdgnjaaDoor.Room.PowTab_below HG.out bl); rintro e w105 ⟨rfl, hb⟩; have n0_ := Aside0.mk (below_step bl hb); clear HB; have HB := n0_; clear n0_; (try clear hb); (try clear hb2); (try clear hk); (try clear hi))))
  go_ret
  exact ⟨by first | rfl | (simp [errW_none, errW_some] <;> rfl) | (simp [*, errW_none, errW_some] <;> rfl) | ((generalize ByteArray.toList _ = z_); cases z_ <;> first | rfl | (simp; done)), bl⟩

/-- THE ONE PURE STATEMENT of targumlaw8_Num12Bases: yours. -/
def targumlaw8_Num12Bases.Pure : Prop := ∀ (a0 : Int) (a1 : Int) (a2 : Int) (a3 : Bool), (Lit.int .u32 a0).wf = true → (Lit.int .u8 a1).wf = true → (Lit.int .u8 a2).wf = true → ∃ k, targumlaw8_Num12Bases.f k a0 a1 a2 a3 = some true
theorem targumlaw8_Num12Bases.walk (P : targumlaw8_Num12Bases.Pure) (a0 : Int) (a1 : Int) (a2 : Int) (a3 : Bool) (w : World) (w0 : (Lit.int .u32 a0).wf = true) (w1 : (Lit.int .u8 a1).wf = true) (w2 : (Lit.int .u8 a2).wf = true) (hG : Go.Proofs.YtbjlcipamdgnjaaDoor.Room.PowTab w) :
  Calls Tryd.prog 5 #[.int .u32 a0, .int .u8 a1, .int .u8 a2, .bool a3] w fun e w' => e = .returned (.bool true) ∧ Below w.heap.size w w' := by
 obtain ⟨k, h⟩ := P a0 a1 a2 a3 w0 w1 w2
 refine (targumlaw8_Num12Bases.calls k a0 a1 a2 a3 true w hG h).mono ?_
 rintro e w' ⟨rfl, hd⟩
 exact ⟨rfl, hd⟩

end Go.Proofs.YtbjlcipamdgnjaaDoor.PN
