/- Written by this session's own program (xprint, made over the kit's print): Lean functions with the same answers as the Go functions, and the proofs of that. Not trusted: Lean checks it. -/
import Derived.Test.YtkijneohhilboaaDoorPIx0
import Derived.Test.YtkijneohhilboaaDoorPIx1
import Derived.Test.YtkijneohhilboaaDoorPIx3
import Derived.Test.YtkijneohhilboaaDoorPIx7
import Derived.Test.YtkijneohhilboaaDoorXW
namespace Go.Proofs.YtkijneohhilboaaDoor.PI
open Go.Proofs.YtkijneohhilboaaDoor.XW Go.RowKit Go.Proofs.YtkijneohhilboaaDoorW.PrintWords Go.Proofs.YtkijneohhilboaaDoorW.PrintLast Go.Proofs.YtkijneohhilboaaDoorW.PrintMore
attribute [local go_sem] max2_int min2_int max_two min_two max_three min_three max_four min_four   -- for this text's walks alone
set_option linter.unusedVariables false
set_option linter.unusedSimpArgs false

/-! ### targumlaw6_Int11Apart: function 7 -/
mutual
def targumlaw6_Int11Apart.j0 : Nat → ByteArray → Int → Bool → Option (Bool)
 | 0, _, _, _ => none
 | k + 1, x0, x1, x20 => if x20 = true then (if (x0.size : Int) > 60 then (some true) else ((int11_Form.f x0).bind fun t253 => (some (t253 == 0)))) else ((int11_Form.f x0).bind fun t254 => (if 0 < (x0.size : Int) then (if (bt x0 0) = 43 then (targumlaw6_Int11Apart.j1 k x0 x1 t254 false) else (if (bt x0 0) = 45 then (targumlaw6_Int11Apart.j1 k x0 x1 t254 false) else (if 1 + x0.size ≤ 9223372036854775807 then ((int11_Form.f ((⟨#[43]⟩ : ByteArray) ++ x0)).bind fun t255 => (if t255 = t254 then ((int11_Form.f ((⟨#[45]⟩ : ByteArray) ++ x0)).bind fun t256 => (targumlaw6_Int11Apart.j1 k x0 x1 t254 (t256 != t254))) else (targumlaw6_Int11Apart.j1 k x0 x1 t254 true))) else (none)))) else (none)))
def targumlaw6_Int11Apart.j1 : Nat → ByteArray → Int → Int → Bool → Option (Bool)
 | 0, _, _, _, _ => none
 | k + 1, x0, x1, x5, x52 => if x52 = true then (some false) else (if x5 < 1 then (targumlaw6_Int11Apart.j2 k x0 x1 true) else (if x5 > 6 then (targumlaw6_Int11Apart.j2 k x0 x1 true) else (if 2 + x0.size ≤ 9223372036854775807 then ((int11_Is.f ((⟨#[43, 45]⟩ : ByteArray) ++ x0)).bind fun t257 => (if t257 = true then (targumlaw6_Int11Apart.j2 k x0 x1 true) else (if x0.size + 1 ≤ 9223372036854775807 then ((int11_Is.f (x0 ++ (⟨#[32]⟩ : ByteArray))).bind fun t258 => (if t258 = true then (targumlaw6_Int11Apart.j2 k x0 x1 true) else (if 1 + x0.size ≤ 9223372036854775807 then ((int11_Is.f ((⟨#[32]⟩ : ByteArray) ++ x0)).bind fun t259 => (if t259 = true then (targumlaw6_Int11Apart.j2 k x0 x1 true) else ((int11_Is.f (x0 ++ (⟨#[46]⟩ : ByteArray))).bind fun t260 => (if t260 = true then (targumlaw6_Int11Apart.j2 k x0 x1 true) else ((int11_Is.f (x0 ++ (⟨#[103]⟩ : ByteArray))).bind fun t261 => (if t261 = true then (targumlaw6_Int11Apart.j2 k x0 x1 true) else ((int11_Is.f (x0 ++ (⟨#[58]⟩ : ByteArray))).bind fun t262 => (targumlaw6_Int11Apart.j2 k x0 x1 t262)))))))) else (none)))) else (none)))) else (none))))
def targumlaw6_Int11Apart.j2 : Nat → ByteArray → Int → Bool → Option (Bool)
 | 0, _, _, _ => none
 | k + 1, x0, x1, x88 => if x88 = true then (some false) else ((int11_Of.f k x0).bind fun bt263 => ((int11_Of.f k bt263.1).bind fun bt265 => ((targumref4_IsDigit.f x1).bind fun t267 => (if t267 = true then (if bt263.2 = true then (if bt265.2 = true then (if bt265.1.toList = bt263.1.toList then (some true) else (some false)) else (some false)) else (some false)) else (if x1 = 95 then (if bt263.2 = true then (if bt265.2 = true then (if bt265.1.toList = bt263.1.toList then (some true) else (some false)) else (some false)) else (some false)) else (if x1 ≥ 97 then (if x1 ≤ 102 then (if bt263.2 = true then (if bt265.2 = true then (if bt265.1.toList = bt263.1.toList then (some true) else (some false)) else (some false)) else (some false)) else (if x1 ≥ 65 then (if x1 ≤ 70 then (if bt263.2 = true then (if bt265.2 = true then (if bt265.1.toList = bt263.1.toList then (some true) else (some false)) else (some false)) else (some false)) else (if x1 = 58 then (if bt263.2 = true then (if bt265.2 = true then (if bt265.1.toList = bt263.1.toList then (some true) else (some false)) else (some false)) else (some false)) else (if x1 = 120 then (if bt263.2 = true then (if bt265.2 = true then (if bt265.1.toList = bt263.1.toList then (some true) else (some false)) else (some false)) else (some false)) else (if bt263.2 = true then (if bt265.2 = true then (if bt265.1.toList = bt263.1.toList then (if x1 = 111 then (some true) else ((some (([x1] : List Int) : List Int)).bind fun y268 => (if x0.size + (strOfNums y268).size ≤ 9223372036854775807 then ((int11_Is.f (x0 ++ (strOfNums y268))).bind fun t271 => (some (!t271))) else (none)))) else (some false)) else (some false)) else (some false))))) else (if x1 = 58 then (if bt263.2 = true then (if bt265.2 = true then (if bt265.1.toList = bt263.1.toList then (some true) else (some false)) else (some false)) else (some false)) else (if x1 = 120 then (if bt263.2 = true then (if bt265.2 = true then (if bt265.1.toList = bt263.1.toList then (some true) else (some false)) else (some false)) else (some false)) else (if bt263.2 = true then (if bt265.2 = true then (if bt265.1.toList = bt263.1.toList then (if x1 = 111 then (some true) else ((some (([x1] : List Int) : List Int)).bind fun y272 => (if x0.size + (strOfNums y272).size ≤ 9223372036854775807 then ((int11_Is.f (x0 ++ (strOfNums y272))).bind fun t275 => (some (!t275))) else (none)))) else (some false)) else (some false)) else (some false)))))) else (if x1 ≥ 65 then (if x1 ≤ 70 then (if bt263.2 = true then (if bt265.2 = true then (if bt265.1.toList = bt263.1.toList then (some true) else (some false)) else (some false)) else (some false)) else (if x1 = 58 then (if bt263.2 = true then (if bt265.2 = true then (if bt265.1.toList = bt263.1.toList then (some true) else (some false)) else (some false)) else (some false)) else (if x1 = 120 then (if bt263.2 = true then (if bt265.2 = true then (if bt265.1.toList = bt263.1.toList then (some true) else (some false)) else (some false)) else (some false)) else (if bt263.2 = true then (if bt265.2 = true then (if bt265.1.toList = bt263.1.toList then (if x1 = 111 then (some true) else ((some (([x1] : List Int) : List Int)).bind fun y276 => (if x0.size + (strOfNums y276).size ≤ 9223372036854775807 then ((int11_Is.f (x0 ++ (strOfNums y276))).bind fun t279 => (some (!t279))) else (none)))) else (some false)) else (some false)) else (some false))))) else (if x1 = 58 then (if bt263.2 = true then (if bt265.2 = true then (if bt265.1.toList = bt263.1.toList then (some true) else (some false)) else (some false)) else (some false)) else (if x1 = 120 then (if bt263.2 = true then (if bt265.2 = true then (if bt265.1.toList = bt263.1.toList then (some true) else (some false)) else (some false)) else (some false)) else (if bt263.2 = true then (if bt265.2 = true then (if bt265.1.toList = bt263.1.toList then (if x1 = 111 then (some true) else ((some (([x1] : List Int) : List Int)).bind fun y280 => (if x0.size + (strOfNums y280).size ≤ 9223372036854775807 then ((int11_Is.f (x0 ++ (strOfNums y280))).bind fun t283 => (some (!t283))) else (none)))) else (some false)) else (some false)) else (some false)))))))))))
end
def targumlaw6_Int11Apart.f (k : Nat) (a0 : ByteArray) (a1 : Int) : Option (Bool) := (targumlaw6_known.f k).bind fun t251 => (if t251 = true then (if (a0.size : Int) > 60 then (targumlaw6_Int11Apart.j0 k a0 a1 true) else ((int11_Is.f a0).bind fun t252 => (targumlaw6_Int11Apart.j0 k a0 a1 (!t252)))) else (some false))
theorem targumlaw6_Int11Apart.mono_l : ∀ k, (∀ y0 y1 y2, LeO (targumlaw6_Int11Apart.j0 k y0 y1 y2) (targumlaw6_Int11Apart.j0 (k + 1) y0 y1 y2)) ∧ (∀ y0 y1 y2 y3, LeO (targumlaw6_Int11Apart.j1 k y0 y1 y2 y3) (targumlaw6_Int11Apart.j1 (k + 1) y0 y1 y2 y3)) ∧ (∀ y0 y1 y2, LeO (targumlaw6_Int11Apart.j2 k y0 y1 y2) (targumlaw6_Int11Apart.j2 (k + 1) y0 y1 y2))
 | 0 => ⟨fun _ _ _ r h => by simp [targumlaw6_Int11Apart.j0] at h, fun _ _ _ _ r h => by simp [targumlaw6_Int11Apart.j1] at h, fun _ _ _ r h => by simp [targumlaw6_Int11Apart.j2] at h⟩
 | k + 1 => by
  obtain ⟨ih0, ih1, ih2⟩ := targumlaw6_Int11Apart.mono_l k
  refine ⟨?_, ?_, ?_⟩
  ·intro y0 y1 y2
   unfold targumlaw6_Int11Apart.j0
   repeat' first
   | (with_reducible exact ih0 _ _ _)
   | (with_reducible exact ih1 _ _ _ _)
   | (with_reducible exact ih2 _ _ _)
   | (with_reducible exact int11_Of.mono _ _)
   | (with_reducible exact targumlaw6_known.mono _)
   | (with_reducible exact LeO.refl _)
   | (with_reducible exact LeO.none _)
   | (with_reducible refine LeO.ite ?_ ?_)
   | (with_reducible refine LeO.bind ?_ (fun _ => ?_))
   | exact ih0 _ _ _
   | exact ih1 _ _ _ _
   | exact ih2 _ _ _
   | exact int11_Of.mono _ _
   | exact targumlaw6_known.mono _
   | exact LeO.none _
   | refine LeO.ite ?_ ?_
   | refine LeO.bind ?_ (fun _ => ?_)
  ·intro y0 y1 y2 y3
   unfold targumlaw6_Int11Apart.j1
   repeat' first
   | (with_reducible exact ih0 _ _ _)
   | (with_reducible exact ih1 _ _ _ _)
   | (with_reducible exact ih2 _ _ _)
   | (with_reducible exact int11_Of.mono _ _)
   | (with_reducible exact targumlaw6_known.mono _)
   | (with_reducible exact LeO.refl _)
   | (with_reducible exact LeO.none _)
   | (with_reducible refine LeO.ite ?_ ?_)
   | (with_reducible refine LeO.bind ?_ (fun _ => ?_))
   | exact ih0 _ _ _
   | exact ih1 _ _ _ _
   | exact ih2 _ _ _
   | exact int11_Of.mono _ _
   | exact targumlaw6_known.mono _
   | exact LeO.none _
   | refine LeO.ite ?_ ?_
   | refine LeO.bind ?_ (fun _ => ?_)
  ·intro y0 y1 y2
   unfold targumlaw6_Int11Apart.j2
   repeat' first
   | (with_reducible exact ih0 _ _ _)
   | (with_reducible exact ih1 _ _ _ _)
   | (with_reducible exact ih2 _ _ _)
   | (with_reducible exact int11_Of.mono _ _)
   | (with_reducible exact targumlaw6_known.mono _)
   | (with_reducible exact LeO.refl _)
   | (with_reducible exact LeO.none _)
   | (with_reducible refine LeO.ite ?_ ?_)
   | (with_reducible refine LeO.bind ?_ (fun _ => ?_))
   | exact ih0 _ _ _
   | exact ih1 _ _ _ _
   | exact ih2 _ _ _
   | exact int11_Of.mono _ _
   | exact targumlaw6_known.mono _
   | exact LeO.none _
   | refine LeO.ite ?_ ?_
   | refine LeO.bind ?_ (fun _ => ?_)
theorem targumlaw6_Int11Apart.mono : ∀ a0 a1 k, LeO (targumlaw6_Int11Apart.f k a0 a1) (targumlaw6_Int11Apart.f (k + 1) a0 a1) := by
 intro a0 a1 k
 obtain ⟨ih0, ih1, ih2⟩ := targumlaw6_Int11Apart.mono_l k
 unfold targumlaw6_Int11Apart.f
 repeat' first
   | (with_reducible exact ih0 _ _ _)
   | (with_reducible exact ih1 _ _ _ _)
   | (with_reducible exact ih2 _ _ _)
   | (with_reducible exact int11_Of.mono _ _)
   | (with_reducible exact targumlaw6_known.mono _)
   | (with_reducible exact LeO.refl _)
   | (with_reducible exact LeO.none _)
   | (with_reducible refine LeO.ite ?_ ?_)
   | (with_reducible refine LeO.bind ?_ (fun _ => ?_))
   | exact ih0 _ _ _
   | exact ih1 _ _ _ _
   | exact ih2 _ _ _
   | exact int11_Of.mono _ _
   | exact targumlaw6_known.mono _
   | exact LeO.none _
   | refine LeO.ite ?_ ?_
   | refine LeO.bind ?_ (fun _ => ?_)
set_option maxHeartbeats 8000000 in
set_option maxRecDepth 100000 in
theorem targumlaw6_Int11Apart.calls (k : Nat) (a0 : ByteArray) (a1 : Int) (r : Bool) (w : World) (hG : Go.Proofs.YtkijneohhilboaaDoor.PIT.Tabs w) (h : targumlaw6_Int11Apart.f k a0 a1 = some r) :
  Calls Tryd.prog 7 #[.string a0, .int .u8 a1] w fun e w' => e = .returned (.bool r) ∧ Below w.heap.size w w' := by
 have HG := Aside0.mk hG
 clear hG
 have HB := Aside0.mk (Below.refl w.heap.size w)
 have H : ((targumlaw6_known.f k).bind fun t251 => (if t251 = true then (if (a0.size : Int) > 60 then (targumlaw6_Int11Apart.j0 k a0 a1 true) else ((int11_Is.f a0).bind fun t252 => (targumlaw6_Int11Apart.j0 k a0 a1 (!t252)))) else (some false))) = some r := h
 clear h
 replace H := Option.bind_eq_some_iff.mp H
 obtain ⟨t251, A30, H⟩ := H
 replace H : (if t251 = true then (if (a0.size : Int) > 60 then (targumlaw6_Int11Apart.j0 k a0 a1 true) else ((int11_Is.f a0).bind fun t252 => (targumlaw6_Int11Apart.j0 k a0 a1 (!t252)))) else (some false)) = some r := H
 have A3 := Aside0.mk A30
 clear A30
 by_cases c4 : t251 = true
 ·as_aux_lemma =>
  subst c4
  have H1 : (if (a0.size : Int) > 60 then (targumlaw6_Int11Apart.j0 k a0 a1 true) else ((int11_Is.f a0).bind fun t252 => (targumlaw6_Int11Apart.j0 k a0 a1 (!t252)))) = some r := by rw [if_pos rfl] at H; exact H
  clear H
  have H := H1
  clear H1
  have HC5 := Aside0.mk H
  clear H
  go_enter Tryd.func7, Tryd.ntmps7
  go_upto_region 3 with (first | ((with_reducible refine gate_callee (f := 10) rfl ?_); refine goesL_ (some 11) rfl rfl Tryd.func10 (by kernel_rfl) rfl #[] rfl (by (try simp only [List.map_toArray, List.map_cons, List.map_nil]); first | done | rfl | (simp only [List.length_drop, List.length_take]; rfl)) ?_; (with_reducible refine (targumlaw6_known.calls k  true _ ?side1 A3.out).mono ?_); (case side1 => exact Go.Proofs.YtkijneohhilboaaDoor.PIT.Tabs_below HG.out bl); rintro e w6 ⟨rfl, hb⟩; refine ⟨_, rfl, ?_⟩; have n0_ := Aside0.mk (below_step bl hb); clear HB; have HB := n0_; clear n0_; (try clear hb); (try clear hb2); (try clear hk); (try clear hi)))
  (try simp only [Act.put, List.setIfInBounds_toArray, List.set_cons_zero, List.set_cons_succ])
  go_cut [20] (fun v20 wc => ∃ (kq : Nat) (x20_4 : Bool), v20 = .bool x20_4 ∧ Aside0 (targumlaw6_Int11Apart.j0 kq a0 a1 x20_4 = some r) ∧ Aside0 (kq ≤ k) ∧ Aside0 (Below w.heap.size w wc))
  case first =>
   have H := HC5.out
   clear HC5
   by_cases c7 : (a0.size : Int) > 60
   ·rw [if_pos c7] at H
    have c7b0 : decide (60 < (a0.size : Int)) = true := decide_eq_true c7
    have c7b1 : decide (60 < a0.size) = true := decide_eq_true (by omega)
    clear c7
    (first | rw [c7b0] | (simp only [i64_w, i32_w]; rw [c7b0]) | skip)
    have H' := Aside0.mk H
    clear H
    go_wp2
    go_meet
    case rel => exact ⟨_, (true), (by first | rfl | (simp; done) | (simp [*]; done) | (simp [wrap64]; done)), H', ⟨by first | omega | exact Nat.le_refl _⟩, ⟨bl⟩⟩
   ·rw [if_neg c7] at H
    have c7b0 : decide (60 < (a0.size : Int)) = false := decide_eq_false c7
    have c7b1 : decide (60 < a0.size) = false := decide_eq_false (by omega)
    clear c7
    (first | rw [c7b0] | (simp only [i64_w, i32_w]; rw [c7b0]) | skip)
    replace H := Option.bind_eq_some_iff.mp H
    obtain ⟨t252, A80, H⟩ := H
    replace H : (targumlaw6_Int11Apart.j0 k a0 a1 (!t252)) = some r := H
    have A8 := Aside0.mk A80
    clear A80
    have H' := Aside0.mk H
    clear H
    go_wp2_with (first | (go_at_call 16; (try (rename_i hK_; simp only [List.append] at hK_)); (with_reducible refine (int11_Is.calls a0 t252 _ A8.out).mono ?_); rintro e w9 ⟨rfl, hb⟩; have n0_ := Aside0.mk (below_step bl hb); clear HB; have HB := n0_; clear n0_; (try clear hb); (try clear hb2); (try clear hk); (try clear hi)))
    go_meet
    case rel => exact ⟨_, (!t252), (by first | rfl | (simp; done) | (simp [*]; done) | (simp [wrap64]; done)), H', ⟨by first | omega | exact Nat.le_refl _⟩, ⟨bl⟩⟩
  case rest =>
   clear HC5
   try clear c1; try clear p2; try clear c4; try clear c7; try clear c7b0; try clear c7b1
   obtain ⟨kq, x20_4, rfl, HA, HJ4, HB⟩ := hcut
   cases kq with
   | zero => exact absurd HA.out (by simp [targumlaw6_Int11Apart.j0])
   | succ kj4 =>
    have H := HA.out
    clear HA
    simp only [targumlaw6_Int11Apart.j0] at H
    by_cases c10 : x20_4 = true
    ·subst c10
     have H1 : (if (a0.size : Int) > 60 then (some true) else ((int11_Form.f a0).bind fun t253 => (some (t253 == 0)))) = some r := by rw [if_pos rfl] at H; exact H
     clear H
     have H := H1
     clear H1
     by_cases c11 : (a0.size : Int) > 60
     ·rw [if_pos c11] at H
      have c11b0 : decide (60 < (a0.size : Int)) = true := decide_eq_true c11
      have c11b1 : decide (60 < a0.size) = true := decide_eq_true (by omega)
      clear c11
      obtain rfl := Option.some.inj H
      go_wp2
      go_ret
      exact ⟨by first | rfl | (simp [errW_none, errW_some] <;> rfl) | (simp [*, errW_none, errW_some] <;> rfl), bl⟩
     ·rw [if_neg c11] at H
      have c11b0 : decide (60 < (a0.size : Int)) = false := decide_eq_false c11
      have c11b1 : decide (60 < a0.size) = false := decide_eq_false (by omega)
      clear c11
      replace H := Option.bind_eq_some_iff.mp H
      obtain ⟨t253, A120, H⟩ := H
      replace H : (some (t253 == 0)) = some r := H
      have A12 := Aside0.mk A120
      clear A120
      obtain rfl := Option.some.inj H
      go_wp2_with (first | (go_at_call 14; (try (rename_i hK_; simp only [List.append] at hK_)); (with_reducible refine (int11_Form.calls a0 t253 _ A12.out).mono ?_); rintro e w13 ⟨rfl, hb⟩; have n0_ := Aside0.mk (below_step bl hb); clear HB; have HB := n0_; clear n0_; (try clear hb); (try clear hb2); (try clear hk); (try clear hi)))
      go_ret
      exact ⟨by first | rfl | (simp [errW_none, errW_some] <;> rfl) | (simp [*, errW_none, errW_some] <;> rfl), bl⟩
    ·as_aux_lemma =>
     replace c10 := Bool.eq_false_iff.mpr c10
     subst c10
     have H1 : ((int11_Form.f a0).bind fun t254 => (if 0 < (a0.size : Int) then (if (bt a0 0) = 43 then (targumlaw6_Int11Apart.j1 kj4 a0 a1 t254 false) else (if (bt a0 0) = 45 then (targumlaw6_Int11Apart.j1 kj4 a0 a1 t254 false) else (if 1 + a0.size ≤ 9223372036854775807 then ((int11_Form.f ((⟨#[43]⟩ : ByteArray) ++ a0)).bind fun t255 => (if t255 = t254 then ((int11_Form.f ((⟨#[45]⟩ : ByteArray) ++ a0)).bind fun t256 => (targumlaw6_Int11Apart.j1 kj4 a0 a1 t254 (t256 != t254))) else (targumlaw6_Int11Apart.j1 kj4 a0 a1 t254 true))) else (none)))) else (none))) = some r := by rw [if_neg (show ¬ (false = true) by decide)] at H; exact H
     clear H
     have H := H1
     clear H1
     replace H := Option.bind_eq_some_iff.mp H
     obtain ⟨t254, A140, H⟩ := H
     replace H : (if 0 < (a0.size : Int) then (if (bt a0 0) = 43 then (targumlaw6_Int11Apart.j1 kj4 a0 a1 t254 false) else (if (bt a0 0) = 45 then (targumlaw6_Int11Apart.j1 kj4 a0 a1 t254 false) else (if 1 + a0.size ≤ 9223372036854775807 then ((int11_Form.f ((⟨#[43]⟩ : ByteArray) ++ a0)).bind fun t255 => (if t255 = t254 then ((int11_Form.f ((⟨#[45]⟩ : ByteArray) ++ a0)).bind fun t256 => (targumlaw6_Int11Apart.j1 kj4 a0 a1 t254 (t256 != t254))) else (targumlaw6_Int11Apart.j1 kj4 a0 a1 t254 true))) else (none)))) else (none)) = some r := H
     have A14 := Aside0.mk A140
     clear A140
     have HC15 := Aside0.mk H
     clear H
     go_upto_region 6 with (first | ((with_reducible refine gate_callee (f := 14) rfl ?_); refine goesL_ (some 30) rfl rfl Tryd.func14 (by kernel_rfl) rfl #[.string a0] rfl (by (try simp only [List.map_toArray, List.map_cons, List.map_nil]); first | done | rfl | (simp only [List.length_drop, List.length_take]; rfl)) ?_; (with_reducible refine (int11_Form.calls a0 t254 _ A14.out).mono ?_); rintro e w16 ⟨rfl, hb⟩; refine ⟨_, rfl, ?_⟩; have n0_ := Aside0.mk (below_step bl hb); clear HB; have HB := n0_; clear n0_; (try clear hb); (try clear hb2); (try clear hk); (try clear hi)))
     (try simp only [Act.put, List.setIfInBounds_toArray, List.set_cons_zero, List.set_cons_succ])
     go_cut [52] (fun v52 wc => ∃ (kq : Nat) (x52_14 : Bool), v52 = .bool x52_14 ∧ Aside0 (targumlaw6_Int11Apart.j1 kq a0 a1 t254 x52_14 = some r) ∧ Aside0 (kq ≤ kj4) ∧ Aside0 (Below w.heap.size w wc))
     case first =>
      have H := HC15.out
      clear HC15
      by_cases c17 : 0 < (a0.size : Int)
      ·rw [if_pos c17] at H
       have c17b0 : decide (0 < (a0.size : Int)) = true := decide_eq_true c17
       have c17b1 : decide (0 < a0.size) = true := decide_eq_true (by omega)
       clear c17
       (first | rw [c17b0] | (simp only [i64_w, i32_w]; rw [c17b0]) | skip)
       by_cases c19 : (bt a0 0) = 43
       ·rw [if_pos c19] at H
        have c19b0 : ((bt a0 0) == 43) = true := beq_iff_eq.mpr c19
        have c19b1 : ((bt a0 0) != 43) = false := bne_eq_false_iff_eq.mpr c19
        clear c19
        have H' := Aside0.mk H
        clear H
        have p18 : 0 ≤ (0 : Int) := (by omega)
        have q18 : 0 < a0.size := (by have : (0 : Int) < (a0.size : Int) := of_decide_eq_true (by first | (with_reducible assumption) | assumption); omega)
        have hx18 : ∀ h : 0 < a0.size, ((a0[0]'h).toNat : Int) = bt a0 0 := bt_at a0 0
        clear p18
        have qi18 : (0 < (a0.size : Int)) = True := eq_true (of_decide_eq_true (by first | (with_reducible assumption) | assumption))
        replace q18 := eq_true q18
        go_wp2
        go_meet
        case rel => exact ⟨_, (false), (by first | rfl | (simp; done) | (simp [*]; done) | (simp [wrap64]; done)), H', ⟨by have := HJ4.out; first | omega | exact Nat.le_refl _⟩, ⟨bl⟩⟩
       ·rw [if_neg c19] at H
        have c19b0 : ((bt a0 0) == 43) = false := beq_eq_false_iff_ne.mpr c19
        have c19b1 : ((bt a0 0) != 43) = true := bne_iff_ne.mpr c19
        by_cases c21 : (bt a0 0) = 45
        ·rw [if_pos c21] at H
         have c21b0 : ((bt a0 0) == 45) = true := beq_iff_eq.mpr c21
         have c21b1 : ((bt a0 0) != 45) = false := bne_eq_false_iff_eq.mpr c21
         clear c21
         have H' := Aside0.mk H
         clear H
         have p18 : 0 ≤ (0 : Int) := (by omega)
         have q18 : 0 < a0.size := (by have : (0 : Int) < (a0.size : Int) := of_decide_eq_true (by first | (with_reducible assumption) | assumption); omega)
         have hx18 : ∀ h : 0 < a0.size, ((a0[0]'h).toNat : Int) = bt a0 0 := bt_at a0 0
         clear p18
         have qi18 : (0 < (a0.size : Int)) = True := eq_true (of_decide_eq_true (by first | (with_reducible assumption) | assumption))
         replace q18 := eq_true q18
         have p20 : 0 ≤ (0 : Int) := (by omega)
         have q20 : 0 < a0.size := (by have : (0 : Int) < (a0.size : Int) := of_decide_eq_true (by first | (with_reducible assumption) | assumption); omega)
         have hx20 : ∀ h : 0 < a0.size, ((a0[0]'h).toNat : Int) = bt a0 0 := bt_at a0 0
         clear p20
         have qi20 : (0 < (a0.size : Int)) = True := eq_true (of_decide_eq_true (by first | (with_reducible assumption) | assumption))
         replace q20 := eq_true q20
         go_wp2
         go_meet
         case rel => exact ⟨_, (false), (by first | rfl | (simp; done) | (simp [*]; done) | (simp [wrap64]; done)), H', ⟨by have := HJ4.out; first | omega | exact Nat.le_refl _⟩, ⟨bl⟩⟩
        ·rw [if_neg c21] at H
         have c21b0 : ((bt a0 0) == 45) = false := beq_eq_false_iff_ne.mpr c21
         have c21b1 : ((bt a0 0) != 45) = true := bne_iff_ne.mpr c21
         by_cases c22 : 1 + a0.size ≤ 9223372036854775807
         ·rw [if_pos c22] at H
          have c22b0 := eq_true c22
          have c22b1 : decide (1 + a0.size ≤ 9223372036854775807) = true := decide_eq_true c22
          try have c22b2 : (9223372036854775807 < 1 + a0.size) = False := eq_false (Nat.not_lt.2 c22)
          replace H := Option.bind_eq_some_iff.mp H
          obtain ⟨t255, A230, H⟩ := H
          replace H : (if t255 = t254 then ((int11_Form.f ((⟨#[45]⟩ : ByteArray) ++ a0)).bind fun t256 => (targumlaw6_Int11Apart.j1 kj4 a0 a1 t254 (t256 != t254))) else (targumlaw6_Int11Apart.j1 kj4 a0 a1 t254 true)) = some r := H
          have A23 := Aside0.mk A230
          clear A230
          by_cases c24 : t255 = t254
          ·rw [if_pos c24] at H
           have c24b0 : (t255 == t254) = true := beq_iff_eq.mpr c24
           have c24b1 : (t255 != t254) = false := bne_eq_false_iff_eq.mpr c24
           clear c24
           replace H := Option.bind_eq_some_iff.mp H
           obtain ⟨t256, A250, H⟩ := H
           replace H : (targumlaw6_Int11Apart.j1 kj4 a0 a1 t254 (t256 != t254)) = some r := H
           have A25 := Aside0.mk A250
           clear A250
           have H' := Aside0.mk H
           clear H
           have p18 : 0 ≤ (0 : Int) := (by omega)
           have q18 : 0 < a0.size := (by have : (0 : Int) < (a0.size : Int) := of_decide_eq_true (by first | (with_reducible assumption) | assumption); omega)
           have hx18 : ∀ h : 0 < a0.size, ((a0[0]'h).toNat : Int) = bt a0 0 := bt_at a0 0
           clear p18
           have qi18 : (0 < (a0.size : Int)) = True := eq_true (of_decide_eq_true (by first | (with_reducible assumption) | assumption))
           replace q18 := eq_true q18
           have p20 : 0 ≤ (0 : Int) := (by omega)
           have q20 : 0 < a0.size := (by have : (0 : Int) < (a0.size : Int) := of_decide_eq_true (by first | (with_reducible assumption) | assumption); omega)
           have hx20 : ∀ h : 0 < a0.size, ((a0[0]'h).toNat : Int) = bt a0 0 := bt_at a0 0
           clear p20
           have qi20 : (0 < (a0.size : Int)) = True := eq_true (of_decide_eq_true (by first | (with_reducible assumption) | assumption))
           replace q20 := eq_true q20
           go_wp2_with (first | (go_at_call 14; (try (rename_i hK_; simp only [List.append] at hK_)); (with_reducible refine (int11_Form.calls ((⟨#[43]⟩ : ByteArray) ++ a0) t255 _ A23.out).mono ?_); rintro e w26 ⟨rfl, hb⟩; have n0_ := Aside0.mk (below_step bl hb); clear HB; have HB := n0_; clear n0_; (try clear hb); (try clear hb2); (try clear hk); (try clear hi)) | (go_at_call 14; (try (rename_i hK_; simp only [List.append] at hK_)); (with_reducible refine (int11_Form.calls ((⟨#[45]⟩ : ByteArray) ++ a0) t256 _ A25.out).mono ?_); rintro e w27 ⟨rfl, hb⟩; have n0_ := Aside0.mk (below_step bl hb); clear HB; have HB := n0_; clear n0_; (try clear hb); (try clear hb2); (try clear hk); (try clear hi)))
           go_meet
           case rel => exact ⟨_, ((t256 != t254)), (by first | rfl | (simp; done) | (simp [*]; done) | (simp [wrap64]; done)), H', ⟨by have := HJ4.out; first | omega | exact Nat.le_refl _⟩, ⟨bl⟩⟩
          ·rw [if_neg c24] at H
           have c24b0 : (t255 == t254) = false := beq_eq_false_iff_ne.mpr c24
           have c24b1 : (t255 != t254) = true := bne_iff_ne.mpr c24
           have H' := Aside0.mk H
           clear H
           have p18 : 0 ≤ (0 : Int) := (by omega)
           have q18 : 0 < a0.size := (by have : (0 : Int) < (a0.size : Int) := of_decide_eq_true (by first | (with_reducible assumption) | assumption); omega)
           have hx18 : ∀ h : 0 < a0.size, ((a0[0]'h).toNat : Int) = bt a0 0 := bt_at a0 0
           clear p18
           have qi18 : (0 < (a0.size : Int)) = True := eq_true (of_decide_eq_true (by first | (with_reducible assumption) | assumption))
           replace q18 := eq_true q18
           have p20 : 0 ≤ (0 : Int) := (by omega)
           have q20 : 0 < a0.size := (by have : (0 : Int) < (a0.size : Int) := of_decide_eq_true (by first | (with_reducible assumption) | assumption); omega)
           have hx20 : ∀ h : 0 < a0.size, ((a0[0]'h).toNat : Int) = bt a0 0 := bt_at a0 0
           clear p20
           have qi20 : (0 < (a0.size : Int)) = True := eq_true (of_decide_eq_true (by first | (with_reducible assumption) | assumption))
           replace q20 := eq_true q20
           go_wp2_with (first | (go_at_call 14; (try (rename_i hK_; simp only [List.append] at hK_)); (with_reducible refine (int11_Form.calls ((⟨#[43]⟩ : ByteArray) ++ a0) t255 _ A23.out).mono ?_); rintro e w28 ⟨rfl, hb⟩; have n0_ := Aside0.mk (below_step bl hb); clear HB; have HB := n0_; clear n0_; (try clear hb); (try clear hb2); (try clear hk); (try clear hi)))
           go_meet
           case rel => exact ⟨_, (true), (by first | rfl | (simp; done) | (simp [*]; done) | (simp [wrap64]; done)), H', ⟨by have := HJ4.out; first | omega | exact Nat.le_refl _⟩, ⟨bl⟩⟩
         ·rw [if_neg c22] at H
          exact absurd H (by simp)
      ·rw [if_neg c17] at H
       exact absurd H (by simp)
     case rest =>
      clear HC15
      try clear c1; try clear p1; try clear q1; try clear hx1; try clear qi1; try clear c2; try clear p2; try clear q2; try clear hx2; try clear qi2; try clear c4; try clear c7; try clear c7b0; try clear c7b1; try clear c10; try clear c11; try clear c11b0; try clear c11b1; try clear c14; try clear c17; try clear c17b0; try clear c17b1; try clear p18; try clear q18; try clear hx18; try clear qi18; try clear c19; try clear c19b0; try clear c19b1; try clear p20; try clear q20; try clear hx20; try clear qi20; try clear c21; try clear c21b0; try clear c21b1; try clear c22; try clear c22b0; try clear c22b1; try clear c22b2; try clear c24; try clear c24b0; try clear c24b1; try clear p18; try clear p2; try clear p20; try clear q18; try clear q20
      obtain ⟨kq, x52_14, rfl, HA, HJ14, HB⟩ := hcut
      cases kq with
      | zero => exact absurd HA.out (by simp [targumlaw6_Int11Apart.j1])
      | succ kj14 =>
       have H := HA.out
       clear HA
       simp only [targumlaw6_Int11Apart.j1] at H
       by_cases c29 : x52_14 = true
       ·subst c29
        have H1 : (some false) = some r := by rw [if_pos rfl] at H; exact H
        clear H
        have H := H1
        clear H1
        obtain rfl := Option.some.inj H
        go_wp2
        go_ret
        exact ⟨by first | rfl | (simp [errW_none, errW_some] <;> rfl) | (simp [*, errW_none, errW_some] <;> rfl), bl⟩
       ·as_aux_lemma =>
        replace c29 := Bool.eq_false_iff.mpr c29
        subst c29
        have H1 : (if t254 < 1 then (targumlaw6_Int11Apart.j2 kj14 a0 a1 true) else (if t254 > 6 then (targumlaw6_Int11Apart.j2 kj14 a0 a1 true) else (if 2 + a0.size ≤ 9223372036854775807 then ((int11_Is.f ((⟨#[43, 45]⟩ : ByteArray) ++ a0)).bind fun t257 => (if t257 = true then (targumlaw6_Int11Apart.j2 kj14 a0 a1 true) else (if a0.size + 1 ≤ 9223372036854775807 then ((int11_Is.f (a0 ++ (⟨#[32]⟩ : ByteArray))).bind fun t258 => (if t258 = true then (targumlaw6_Int11Apart.j2 kj14 a0 a1 true) else (if 1 + a0.size ≤ 9223372036854775807 then ((int11_Is.f ((⟨#[32]⟩ : ByteArray) ++ a0)).bind fun t259 => (if t259 = true then (targumlaw6_Int11Apart.j2 kj14 a0 a1 true) else ((int11_Is.f (a0 ++ (⟨#[46]⟩ : ByteArray))).bind fun t260 => (if t260 = true then (targumlaw6_Int11Apart.j2 kj14 a0 a1 true) else ((int11_Is.f (a0 ++ (⟨#[103]⟩ : ByteArray))).bind fun t261 => (if t261 = true then (targumlaw6_Int11Apart.j2 kj14 a0 a1 true) else ((int11_Is.f (a0 ++ (⟨#[58]⟩ : ByteArray))).bind fun t262 => (targumlaw6_Int11Apart.j2 kj14 a0 a1 t262)))))))) else (none)))) else (none)))) else (none)))) = some r := by rw [if_neg (show ¬ (false = true) by decide)] at H; exact H
        clear H
        have H := H1
        clear H1
        have HC30 := Aside0.mk H
        clear H
        go_upto_region 8 with (fail)
        go_cut [88] (fun v88 wc => ∃ (kq : Nat) (x88_29 : Bool), v88 = .bool x88_29 ∧ Aside0 (targumlaw6_Int11Apart.j2 kq a0 a1 x88_29 = some r) ∧ Aside0 (kq ≤ kj14) ∧ Aside0 (Below w.heap.size w wc))
        case first =>
         have H := HC30.out
         clear HC30
         by_cases c31 : t254 < 1
         ·rw [if_pos c31] at H
          have c31b0 : decide (t254 < 1) = true := decide_eq_true c31
          clear c31
          (first | rw [c31b0] | (simp only [i64_w, i32_w]; rw [c31b0]) | skip)
          have H' := Aside0.mk H
          clear H
          go_wp2
          go_meet
          case rel => exact ⟨_, (true), (by first | rfl | (simp; done) | (simp [*]; done) | (simp [wrap64]; done)), H', ⟨by have := HJ4.out; have := HJ14.out; first | omega | exact Nat.le_refl _⟩, ⟨bl⟩⟩
         ·as_aux_lemma =>
          rw [if_neg c31] at H
          have c31b0 : decide (t254 < 1) = false := decide_eq_false c31
          clear c31
          (first | rw [c31b0] | (simp only [i64_w, i32_w]; rw [c31b0]) | skip)
          by_cases c32 : t254 > 6
          ·rw [if_pos c32] at H
           have c32b0 : decide (6 < t254) = true := decide_eq_true c32
           clear c32
           have H' := Aside0.mk H
           clear H
           go_wp2
           go_meet
           case rel => exact ⟨_, (true), (by first | rfl | (simp; done) | (simp [*]; done) | (simp [wrap64]; done)), H', ⟨by have := HJ4.out; have := HJ14.out; first | omega | exact Nat.le_refl _⟩, ⟨bl⟩⟩
          ·as_aux_lemma =>
           rw [if_neg c32] at H
           have c32b0 : decide (6 < t254) = false := decide_eq_false c32
           clear c32
           by_cases c33 : 2 + a0.size ≤ 9223372036854775807
           ·as_aux_lemma =>
            rw [if_pos c33] at H
            have c33b0 := eq_true c33
            have c33b1 : decide (2 + a0.size ≤ 9223372036854775807) = true := decide_eq_true c33
            try have c33b2 : (9223372036854775807 < 2 + a0.size) = False := eq_false (Nat.not_lt.2 c33)
            replace H := Option.bind_eq_some_iff.mp H
            obtain ⟨t257, A340, H⟩ := H
            replace H : (if t257 = true then (targumlaw6_Int11Apart.j2 kj14 a0 a1 true) else (if a0.size + 1 ≤ 9223372036854775807 then ((int11_Is.f (a0 ++ (⟨#[32]⟩ : ByteArray))).bind fun t258 => (if t258 = true then (targumlaw6_Int11Apart.j2 kj14 a0 a1 true) else (if 1 + a0.size ≤ 9223372036854775807 then ((int11_Is.f ((⟨#[32]⟩ : ByteArray) ++ a0)).bind fun t259 => (if t259 = true then (targumlaw6_Int11Apart.j2 kj14 a0 a1 true) else ((int11_Is.f (a0 ++ (⟨#[46]⟩ : ByteArray))).bind fun t260 => (if t260 = true then (targumlaw6_Int11Apart.j2 kj14 a0 a1 true) else ((int11_Is.f (a0 ++ (⟨#[103]⟩ : ByteArray))).bind fun t261 => (if t261 = true then (targumlaw6_Int11Apart.j2 kj14 a0 a1 true) else ((int11_Is.f (a0 ++ (⟨#[58]⟩ : ByteArray))).bind fun t262 => (targumlaw6_Int11Apart.j2 kj14 a0 a1 t262)))))))) else (none)))) else (none))) = some r := H
            have A34 := Aside0.mk A340
            clear A340
            by_cases c35 : t257 = true
            ·subst c35
             have H1 : (targumlaw6_Int11Apart.j2 kj14 a0 a1 true) = some r := by rw [if_pos rfl] at H; exact H
             clear H
             have H := H1
             clear H1
             have H' := Aside0.mk H
             clear H
             go_wp2_with (first | (go_at_call 16; (try (rename_i hK_; simp only [List.append] at hK_)); (with_reducible refine (int11_Is.calls ((⟨#[43, 45]⟩ : ByteArray) ++ a0) true _ A34.out).mono ?_); rintro e w36 ⟨rfl, hb⟩; have n0_ := Aside0.mk (below_step bl hb); clear HB; have HB := n0_; clear n0_; (try clear hb); (try clear hb2); (try clear hk); (try clear hi)))
             go_meet
             case rel => exact ⟨_, (true), (by first | rfl | (simp; done) | (simp [*]; done) | (simp [wrap64]; done)), H', ⟨by have := HJ4.out; have := HJ14.out; first | omega | exact Nat.le_refl _⟩, ⟨bl⟩⟩
            ·as_aux_lemma =>
             replace c35 := Bool.eq_false_iff.mpr c35
             subst c35
             have H1 : (if a0.size + 1 ≤ 9223372036854775807 then ((int11_Is.f (a0 ++ (⟨#[32]⟩ : ByteArray))).bind fun t258 => (if t258 = true then (targumlaw6_Int11Apart.j2 kj14 a0 a1 true) else (if 1 + a0.size ≤ 9223372036854775807 then ((int11_Is.f ((⟨#[32]⟩ : ByteArray) ++ a0)).bind fun t259 => (if t259 = true then (targumlaw6_Int11Apart.j2 kj14 a0 a1 true) else ((int11_Is.f (a0 ++ (⟨#[46]⟩ : ByteArray))).bind fun t260 => (if t260 = true then (targumlaw6_Int11Apart.j2 kj14 a0 a1 true) else ((int11_Is.f (a0 ++ (⟨#[103]⟩ : ByteArray))).bind fun t261 => (if t261 = true then (targumlaw6_Int11Apart.j2 kj14 a0 a1 true) else ((int11_Is.f (a0 ++ (⟨#[58]⟩ : ByteArray))).bind fun t262 => (targumlaw6_Int11Apart.j2 kj14 a0 a1 t262)))))))) else (none)))) else (none)) = some r := by rw [if_neg (show ¬ (false = true) by decide)] at H; exact H
             clear H
             have H := H1
             clear H1
             by_cases c37 : a0.size + 1 ≤ 9223372036854775807
             ·as_aux_lemma =>
              rw [if_pos c37] at H
              have c37b0 := eq_true c37
              have c37b1 : decide (a0.size + 1 ≤ 9223372036854775807) = true := decide_eq_true c37
              try have c37b2 : (9223372036854775807 < a0.size + 1) = False := eq_false (Nat.not_lt.2 c37)
              replace H := Option.bind_eq_some_iff.mp H
              obtain ⟨t258, A380, H⟩ := H
              replace H : (if t258 = true then (targumlaw6_Int11Apart.j2 kj14 a0 a1 true) else (if 1 + a0.size ≤ 9223372036854775807 then ((int11_Is.f ((⟨#[32]⟩ : ByteArray) ++ a0)).bind fun t259 => (if t259 = true then (targumlaw6_Int11Apart.j2 kj14 a0 a1 true) else ((int11_Is.f (a0 ++ (⟨#[46]⟩ : ByteArray))).bind fun t260 => (if t260 = true then (targumlaw6_Int11Apart.j2 kj14 a0 a1 true) else ((int11_Is.f (a0 ++ (⟨#[103]⟩ : ByteArray))).bind fun t261 => (if t261 = true then (targumlaw6_Int11Apart.j2 kj14 a0 a1 true) else ((int11_Is.f (a0 ++ (⟨#[58]⟩ : ByteArray))).bind fun t262 => (targumlaw6_Int11Apart.j2 kj14 a0 a1 t262)))))))) else (none))) = some r := H
              have A38 := Aside0.mk A380
              clear A380
              by_cases c39 : t258 = true
              ·subst c39
               have H1 : (targumlaw6_Int11Apart.j2 kj14 a0 a1 true) = some r := by rw [if_pos rfl] at H; exact H
               clear H
               have H := H1
               clear H1
               have H' := Aside0.mk H
               clear H
               go_wp2_with (first | (go_at_call 16; (try (rename_i hK_; simp only [List.append] at hK_)); (with_reducible refine (int11_Is.calls ((⟨#[43, 45]⟩ : ByteArray) ++ a0) false _ A34.out).mono ?_); rintro e w40 ⟨rfl, hb⟩; have n0_ := Aside0.mk (below_step bl hb); clear HB; have HB := n0_; clear n0_; (try clear hb); (try clear hb2); (try clear hk); (try clear hi)) | (go_at_call 16; (try (rename_i hK_; simp only [List.append] at hK_)); (with_reducible refine (int11_Is.calls (a0 ++ (⟨#[32]⟩ : ByteArray)) true _ A38.out).mono ?_); rintro e w41 ⟨rfl, hb⟩; have n0_ := Aside0.mk (below_step bl hb); clear HB; have HB := n0_; clear n0_; (try clear hb); (try clear hb2); (try clear hk); (try clear hi)))
               go_meet
               case rel => exact ⟨_, (true), (by first | rfl | (simp; done) | (simp [*]; done) | (simp [wrap64]; done)), H', ⟨by have := HJ4.out; have := HJ14.out; first | omega | exact Nat.le_refl _⟩, ⟨bl⟩⟩
              ·as_aux_lemma =>
               replace c39 := Bool.eq_false_iff.mpr c39
               subst c39
               have H1 : (if 1 + a0.size ≤ 9223372036854775807 then ((int11_Is.f ((⟨#[32]⟩ : ByteArray) ++ a0)).bind fun t259 => (if t259 = true then (targumlaw6_Int11Apart.j2 kj14 a0 a1 true) else ((int11_Is.f (a0 ++ (⟨#[46]⟩ : ByteArray))).bind fun t260 => (if t260 = true then (targumlaw6_Int11Apart.j2 kj14 a0 a1 true) else ((int11_Is.f (a0 ++ (⟨#[103]⟩ : ByteArray))).bind fun t261 => (if t261 = true then (targumlaw6_Int11Apart.j2 kj14 a0 a1 true) else ((int11_Is.f (a0 ++ (⟨#[58]⟩ : ByteArray))).bind fun t262 => (targumlaw6_Int11Apart.j2 kj14 a0 a1 t262)))))))) else (none)) = some r := by rw [if_neg (show ¬ (false = true) by decide)] at H; exact H
               clear H
               have H := H1
               clear H1
               by_cases c42 : 1 + a0.size ≤ 9223372036854775807
               ·rw [if_pos c42] at H
                have c42b0 := eq_true c42
                have c42b1 : decide (1 + a0.size ≤ 9223372036854775807) = true := decide_eq_true c42
                try have c42b2 : (9223372036854775807 < 1 + a0.size) = False := eq_false (Nat.not_lt.2 c42)
                replace H := Option.bind_eq_some_iff.mp H
                obtain ⟨t259, A430, H⟩ := H
                replace H : (if t259 = true then (targumlaw6_Int11Apart.j2 kj14 a0 a1 true) else ((int11_Is.f (a0 ++ (⟨#[46]⟩ : ByteArray))).bind fun t260 => (if t260 = true then (targumlaw6_Int11Apart.j2 kj14 a0 a1 true) else ((int11_Is.f (a0 ++ (⟨#[103]⟩ : ByteArray))).bind fun t261 => (if t261 = true then (targumlaw6_Int11Apart.j2 kj14 a0 a1 true) else ((int11_Is.f (a0 ++ (⟨#[58]⟩ : ByteArray))).bind fun t262 => (targumlaw6_Int11Apart.j2 kj14 a0 a1 t262))))))) = some r := H
                have A43 := Aside0.mk A430
                clear A430
                by_cases c44 : t259 = true
                ·subst c44
                 have H1 : (targumlaw6_Int11Apart.j2 kj14 a0 a1 true) = some r := by rw [if_pos rfl] at H; exact H
                 clear H
                 have H := H1
                 clear H1
                 have H' := Aside0.mk H
                 clear H
                 go_wp2_with (first | (go_at_call 16; (try (rename_i hK_; simp only [List.append] at hK_)); (with_reducible refine (int11_Is.calls ((⟨#[43, 45]⟩ : ByteArray) ++ a0) false _ A34.out).mono ?_); rintro e w45 ⟨rfl, hb⟩; have n0_ := Aside0.mk (below_step bl hb); clear HB; have HB := n0_; clear n0_; (try clear hb); (try clear hb2); (try clear hk); (try clear hi)) | (go_at_call 16; (try (rename_i hK_; simp only [List.append] at hK_)); (with_reducible refine (int11_Is.calls (a0 ++ (⟨#[32]⟩ : ByteArray)) false _ A38.out).mono ?_); rintro e w46 ⟨rfl, hb⟩; have n0_ := Aside0.mk (below_step bl hb); clear HB; have HB := n0_; clear n0_; (try clear hb); (try clear hb2); (try clear hk); (try clear hi)) | (go_at_call 16; (try (rename_i hK_; simp only [List.append] at hK_)); (with_reducible refine (int11_Is.calls ((⟨#[32]⟩ : ByteArray) ++ a0) true _ A43.out).mono ?_); rintro e w47 ⟨rfl, hb⟩; have n0_ := Aside0.mk (below_step bl hb); clear HB; have HB := n0_; clear n0_; (try clear hb); (try clear hb2); (try clear hk); (try clear hi)))
                 go_meet
                 case rel => exact ⟨_, (true), (by first | rfl | (simp; done) | (simp [*]; done) | (simp [wrap64]; done)), H', ⟨by have := HJ4.out; have := HJ14.out; first | omega | exact Nat.le_refl _⟩, ⟨bl⟩⟩
                ·replace c44 := Bool.eq_false_iff.mpr c44
                 subst c44
                 have H1 : ((int11_Is.f (a0 ++ (⟨#[46]⟩ : ByteArray))).bind fun t260 => (if t260 = true then (targumlaw6_Int11Apart.j2 kj14 a0 a1 true) else ((int11_Is.f (a0 ++ (⟨#[103]⟩ : ByteArray))).bind fun t261 => (if t261 = true then (targumlaw6_Int11Apart.j2 kj14 a0 a1 true) else ((int11_Is.f (a0 ++ (⟨#[58]⟩ : ByteArray))).bind fun t262 => (targumlaw6_Int11Apart.j2 kj14 a0 a1 t262)))))) = some r := by rw [if_neg (show ¬ (false = true) by decide)] at H; exact H
                 clear H
                 have H := H1
                 clear H1
                 replace H := Option.bind_eq_some_iff.mp H
                 obtain ⟨t260, A480, H⟩ := H
                 replace H : (if t260 = true then (targumlaw6_Int11Apart.j2 kj14 a0 a1 true) else ((int11_Is.f (a0 ++ (⟨#[103]⟩ : ByteArray))).bind fun t261 => (if t261 = true then (targumlaw6_Int11Apart.j2 kj14 a0 a1 true) else ((int11_Is.f (a0 ++ (⟨#[58]⟩ : ByteArray))).bind fun t262 => (targumlaw6_Int11Apart.j2 kj14 a0 a1 t262))))) = some r := H
                 have A48 := Aside0.mk A480
                 clear A480
                 by_cases c49 : t260 = true
                 ·subst c49
                  have H1 : (targumlaw6_Int11Apart.j2 kj14 a0 a1 true) = some r := by rw [if_pos rfl] at H; exact H
                  clear H
                  have H := H1
                  clear H1
                  have H' := Aside0.mk H
                  clear H
                  go_wp2_with (first | (go_at_call 16; (try (rename_i hK_; simp only [List.append] at hK_)); (with_reducible refine (int11_Is.calls ((⟨#[43, 45]⟩ : ByteArray) ++ a0) false _ A34.out).mono ?_); rintro e w50 ⟨rfl, hb⟩; have n0_ := Aside0.mk (below_step bl hb); clear HB; have HB := n0_; clear n0_; (try clear hb); (try clear hb2); (try clear hk); (try clear hi)) | (go_at_call 16; (try (rename_i hK_; simp only [List.append] at hK_)); (with_reducible refine (int11_Is.calls (a0 ++ (⟨#[32]⟩ : ByteArray)) false _ A38.out).mono ?_); rintro e w51 ⟨rfl, hb⟩; have n0_ := Aside0.mk (below_step bl hb); clear HB; have HB := n0_; clear n0_; (try clear hb); (try clear hb2); (try clear hk); (try clear hi)) | (go_at_call 16; (try (rename_i hK_; simp only [List.append] at hK_)); (with_reducible refine (int11_Is.calls ((⟨#[32]⟩ : ByteArray) ++ a0) false _ A43.out).mono ?_); rintro e w52 ⟨rfl, hb⟩; have n0_ := Aside0.mk (below_step bl hb); clear HB; have HB := n0_; clear n0_; (try clear hb); (try clear hb2); (try clear hk); (try clear hi)) | (go_at_call 16; (try (rename_i hK_; simp only [List.append] at hK_)); (with_reducible refine (int11_Is.calls (a0 ++ (⟨#[46]⟩ : ByteArray)) true _ A48.out).mono ?_); rintro e w53 ⟨rfl, hb⟩; have n0_ := Aside0.mk (below_step bl hb); clear HB; have HB := n0_; clear n0_; (try clear hb); (try clear hb2); (try clear hk); (try clear hi)))
                  go_meet
                  case rel => exact ⟨_, (true), (by first | rfl | (simp; done) | (simp [*]; done) | (simp [wrap64]; done)), H', ⟨by have := HJ4.out; have := HJ14.out; first | omega | exact Nat.le_refl _⟩, ⟨bl⟩⟩
                 ·replace c49 := Bool.eq_false_iff.mpr c49
                  subst c49
                  have H1 : ((int11_Is.f (a0 ++ (⟨#[103]⟩ : ByteArray))).bind fun t261 => (if t261 = true then (targumlaw6_Int11Apart.j2 kj14 a0 a1 true) else ((int11_Is.f (a0 ++ (⟨#[58]⟩ : ByteArray))).bind fun t262 => (targumlaw6_Int11Apart.j2 kj14 a0 a1 t262)))) = some r := by rw [if_neg (show ¬ (false = true) by decide)] at H; exact H
                  clear H
                  have H := H1
                  clear H1
                  replace H := Option.bind_eq_some_iff.mp H
                  obtain ⟨t261, A540, H⟩ := H
                  replace H : (if t261 = true then (targumlaw6_Int11Apart.j2 kj14 a0 a1 true) else ((int11_Is.f (a0 ++ (⟨#[58]⟩ : ByteArray))).bind fun t262 => (targumlaw6_Int11Apart.j2 kj14 a0 a1 t262))) = some r := H
                  have A54 := Aside0.mk A540
                  clear A540
                  by_cases c55 : t261 = true
                  ·subst c55
                   have H1 : (targumlaw6_Int11Apart.j2 kj14 a0 a1 true) = some r := by rw [if_pos rfl] at H; exact H
                   clear H
                   have H := H1
                   clear H1
                   have H' := Aside0.mk H
                   clear H
                   go_wp2_with (first | (go_at_call 16; (try (rename_i hK_; simp only [List.append] at hK_)); (with_reducible refine (int11_Is.calls ((⟨#[43, 45]⟩ : ByteArray) ++ a0) false _ A34.out).mono ?_); rintro e w56 ⟨rfl, hb⟩; have n0_ := Aside0.mk (below_step bl hb); clear HB; have HB := n0_; clear n0_; (try clear hb); (try clear hb2); (try clear hk); (try clear hi)) | (go_at_call 16; (try (rename_i hK_; simp only [List.append] at hK_)); (with_reducible refine (int11_Is.calls (a0 ++ (⟨#[32]⟩ : ByteArray)) false _ A38.out).mono ?_); rintro e w57 ⟨rfl, hb⟩; have n0_ := Aside0.mk (below_step bl hb); clear HB; have HB := n0_; clear n0_; (try clear hb); (try clear hb2); (try clear hk); (try clear hi)) | (go_at_call 16; (try (rename_i hK_; simp only [List.append] at hK_)); (with_reducible refine (int11_Is.calls ((⟨#[32]⟩ : ByteArray) ++ a0) false _ A43.out).mono ?_); rintro e w58 ⟨rfl, hb⟩; have n0_ := Aside0.mk (below_step bl hb); clear HB; have HB := n0_; clear n0_; (try clear hb); (try clear hb2); (try clear hk); (try clear hi)) | (go_at_call 16; (try (rename_i hK_; simp only [List.append] at hK_)); (with_reducible refine (int11_Is.calls (a0 ++ (⟨#[46]⟩ : ByteArray)) false _ A48.out).mono ?_); rintro e w59 ⟨rfl, hb⟩; have n0_ := Aside0.mk (below_step bl hb); clear HB; have HB := n0_; clear n0_; (try clear hb); (try clear hb2); (try clear hk); (try clear hi)) | (go_at_call 16; (try (rename_i hK_; simp only [List.append] at hK_)); (with_reducible refine (int11_Is.calls (a0 ++ (⟨#[103]⟩ : ByteArray)) true _ A54.out).mono ?_); rintro e w60 ⟨rfl, hb⟩; have n0_ := Aside0.mk (below_step bl hb); clear HB; have HB := n0_; clear n0_; (try clear hb); (try clear hb2); (try clear hk); (try clear hi)))
                   go_meet
                   case rel => exact ⟨_, (true), (by first | rfl | (simp; done) | (simp [*]; done) | (simp [wrap64]; done)), H', ⟨by have := HJ4.out; have := HJ14.out; first | omega | exact Nat.le_refl _⟩, ⟨bl⟩⟩
                  ·replace c55 := Bool.eq_false_iff.mpr c55
                   subst c55
                   have H1 : ((int11_Is.f (a0 ++ (⟨#[58]⟩ : ByteArray))).bind fun t262 => (targumlaw6_Int11Apart.j2 kj14 a0 a1 t262)) = some r := by rw [if_neg (show ¬ (false = true) by decide)] at H; exact H
                   clear H
                   have H := H1
                   clear H1
                   replace H := Option.bind_eq_some_iff.mp H
                   obtain ⟨t262, A610, H⟩ := H
                   replace H : (targumlaw6_Int11Apart.j2 kj14 a0 a1 t262) = some r := H
                   have A61 := Aside0.mk A610
                   clear A610
                   have H' := Aside0.mk H
                   clear H
                   go_wp2_with (first | (go_at_call 16; (try (rename_i hK_; simp only [List.append] at hK_)); (with_reducible refine (int11_Is.calls ((⟨#[43, 45]⟩ : ByteArray) ++ a0) false _ A34.out).mono ?_); rintro e w62 ⟨rfl, hb⟩; have n0_ := Aside0.mk (below_step bl hb); clear HB; have HB := n0_; clear n0_; (try clear hb); (try clear hb2); (try clear hk); (try clear hi)) | (go_at_call 16; (try (rename_i hK_; simp only [List.append] at hK_)); (with_reducible refine (int11_Is.calls (a0 ++ (⟨#[32]⟩ : ByteArray)) false _ A38.out).mono ?_); rintro e w63 ⟨rfl, hb⟩; have n0_ := Aside0.mk (below_step bl hb); clear HB; have HB := n0_; clear n0_; (try clear hb); (try clear hb2); (try clear hk); (try clear hi)) | (go_at_call 16; (try (rename_i hK_; simp only [List.append] at hK_)); (with_reducible refine (int11_Is.calls ((⟨#[32]⟩ : ByteArray) ++ a0) false _ A43.out).mono ?_); rintro e w64 ⟨rfl, hb⟩; have n0_ := Aside0.mk (below_step bl hb); clear HB; have HB := n0_; clear n0_; (try clear hb); (try clear hb2); (try clear hk); (try clear hi)) | (go_at_call 16; (try (rename_i hK_; simp only [List.append] at hK_)); (with_reducible refine (int11_Is.calls (a0 ++ (⟨#[46]⟩ : ByteArray)) false _ A48.out).mono ?_); rintro e w65 ⟨rfl, hb⟩; have n0_ := Aside0.mk (below_step bl hb); clear HB; have HB := n0_; clear n0_; (try clear hb); (try clear hb2); (try clear hk); (try clear hi)) | (go_at_call 16; (try (rename_i hK_; simp only [List.append] at hK_)); (with_reducible refine (int11_Is.calls (a0 ++ (⟨#[103]⟩ : ByteArray)) false _ A54.out).mono ?_); rintro e w66 ⟨rfl, hb⟩; have n0_ := Aside0.mk (below_step bl hb); clear HB; have HB := n0_; clear n0_; (try clear hb); (try clear hb2); (try clear hk); (try clear hi)) | (go_at_call 16; (try (rename_i hK_; simp only [List.append] at hK_)); (with_reducible refine (int11_Is.calls (a0 ++ (⟨#[58]⟩ : ByteArray)) t262 _ A61.out).mono ?_); rintro e w67 ⟨rfl, hb⟩; have n0_ := Aside0.mk (below_step bl hb); clear HB; have HB := n0_; clear n0_; (try clear hb); (try clear hb2); (try clear hk); (try clear hi)))
                   go_meet
                   case rel => exact ⟨_, (t262), (by first | rfl | (simp; done) | (simp [*]; done) | (simp [wrap64]; done)), H', ⟨by have := HJ4.out; have := HJ14.out; first | omega | exact Nat.le_refl _⟩, ⟨bl⟩⟩
               ·rw [if_neg c42] at H
                exact absurd H (by simp)
             ·rw [if_neg c37] at H
              exact absurd H (by simp)
           ·rw [if_neg c33] at H
            exact absurd H (by simp)
        case rest =>
         clear HC30
         try clear c1; try clear p1; try clear q1; try clear hx1; try clear qi1; try clear c2; try clear p2; try clear q2; try clear hx2; try clear qi2; try clear c3; try clear c4; try clear c5; try clear c7; try clear c7b0; try clear c7b1; try clear c10; try clear c11; try clear c11b0; try clear c11b1; try clear c14; try clear c17; try clear c17b0; try clear c17b1; try clear p18; try clear q18; try clear hx18; try clear qi18; try clear c19; try clear c19b0; try clear c19b1; try clear p20; try clear q20; try clear hx20; try clear qi20; try clear c21; try clear c21b0; try clear c21b1; try clear c22; try clear c22b0; try clear c22b1; try clear c22b2; try clear c24; try clear c24b0; try clear c24b1; try clear c29; try clear c31; try clear c31b0; try clear c32; try clear c32b0; try clear c33; try clear c33b0; try clear c33b1; try clear c33b2; try clear c35; try clear c37; try clear c37b0; try clear c37b1; try clear c37b2; try clear c39; try clear c42; try clear c42b0; try clear c42b1; try clear c42b2; try clear c44; try clear c49; try clear c55; try clear p1; try clear p18; try clear p2; try clear p20; try clear q1; try clear q18; try clear q2; try clear q20
         obtain ⟨kq, x88_29, rfl, HA, HJ29, HB⟩ := hcut
         cases kq with
         | zero => exact absurd HA.out (by simp [targumlaw6_Int11Apart.j2])
         | succ kj29 =>
          have H := HA.out
          clear HA
          simp only [targumlaw6_Int11Apart.j2] at H
          by_cases c68 : x88_29 = true
          ·subst c68
           have H1 : (some false) = some r := by rw [if_pos rfl] at H; exact H
           clear H
           have H := H1
           clear H1
           obtain rfl := Option.some.inj H
           go_wp2
           go_ret
           exact ⟨by first | rfl | (simp [errW_none, errW_some] <;> rfl) | (simp [*, errW_none, errW_some] <;> rfl), bl⟩
          ·as_aux_lemma =>
           replace c68 := Bool.eq_false_iff.mpr c68
           subst c68
           have H1 : ((int11_Of.f kj29 a0).bind fun bt263 => ((int11_Of.f kj29 bt263.1).bind fun bt265 => ((targumref4_IsDigit.f a1).bind fun t267 => (if t267 = true then (if bt263.2 = true then (if bt265.2 = true then (if bt265.1.toList = bt263.1.toList then (some true) else (some false)) else (some false)) else (some false)) else (if a1 = 95 then (if bt263.2 = true then (if bt265.2 = true then (if bt265.1.toList = bt263.1.toList then (some true) else (some false)) else (some false)) else (some false)) else (if a1 ≥ 97 then (if a1 ≤ 102 then (if bt263.2 = true then (if bt265.2 = true then (if bt265.1.toList = bt263.1.toList then (some true) else (some false)) else (some false)) else (some false)) else (if a1 ≥ 65 then (if a1 ≤ 70 then (if bt263.2 = true then (if bt265.2 = true then (if bt265.1.toList = bt263.1.toList then (some true) else (some false)) else (some false)) else (some false)) else (if a1 = 58 then (if bt263.2 = true then (if bt265.2 = true then (if bt265.1.toList = bt263.1.toList then (some true) else (some false)) else (some false)) else (some false)) else (if a1 = 120 then (if bt263.2 = true then (if bt265.2 = true then (if bt265.1.toList = bt263.1.toList then (some true) else (some false)) else (some false)) else (some false)) else (if bt263.2 = true then (if bt265.2 = true then (if bt265.1.toList = bt263.1.toList then (if a1 = 111 then (some true) else ((some (([a1] : List Int) : List Int)).bind fun y268 => (if a0.size + (strOfNums y268).size ≤ 9223372036854775807 then ((int11_Is.f (a0 ++ (strOfNums y268))).bind fun t271 => (some (!t271))) else (none)))) else (some false)) else (some false)) else (some false))))) else (if a1 = 58 then (if bt263.2 = true then (if bt265.2 = true then (if bt265.1.toList = bt263.1.toList then (some true) else (some false)) else (some false)) else (some false)) else (if a1 = 120 then (if bt263.2 = true then (if bt265.2 = true then (if bt265.1.toList = bt263.1.toList then (some true) else (some false)) else (some false)) else (some false)) else (if bt263.2 = true then (if bt265.2 = true then (if bt265.1.toList = bt263.1.toList then (if a1 = 111 then (some true) else ((some (([a1] : List Int) : List Int)).bind fun y272 => (if a0.size + (strOfNums y272).size ≤ 9223372036854775807 then ((int11_Is.f (a0 ++ (strOfNums y272))).bind fun t275 => (some (!t275))) else (none)))) else (some false)) else (some false)) else (some false)))))) else (if a1 ≥ 65 then (if a1 ≤ 70 then (if bt263.2 = true then (if bt265.2 = true then (if bt265.1.toList = bt263.1.toList then (some true) else (some false)) else (some false)) else (some false)) else (if a1 = 58 then (if bt263.2 = true then (if bt265.2 = true then (if bt265.1.toList = bt263.1.toList then (some true) else (some false)) else (some false)) else (some false)) else (if a1 = 120 then (if bt263.2 = true then (if bt265.2 = true then (if bt265.1.toList = bt263.1.toList then (some true) else (some false)) else (some false)) else (some false)) else (if bt263.2 = true then (if bt265.2 = true then (if bt265.1.toList = bt263.1.toList then (if a1 = 111 then (some true) else ((some (([a1] : List Int) : List Int)).bind fun y276 => (if a0.size + (strOfNums y276).size ≤ 9223372036854775807 then ((int11_Is.f (a0 ++ (strOfNums y276))).bind fun t279 => (some (!t279))) else (none)))) else (some false)) else (some false)) else (some false))))) else (if a1 = 58 then (if bt263.2 = true then (if bt265.2 = true then (if bt265.1.toList = bt263.1.toList then (some true) else (some false)) else (some false)) else (some false)) else (if a1 = 120 then (if bt263.2 = true then (if bt265.2 = true then (if bt265.1.toList = bt263.1.toList then (some true) else (some false)) else (some false)) else (some false)) else (if bt263.2 = true then (if bt265.2 = true then (if bt265.1.toList = bt263.1.toList then (if a1 = 111 then (some true) else ((some (([a1] : List Int) : List Int)).bind fun y280 => (if a0.size + (strOfNums y280).size ≤ 9223372036854775807 then ((int11_Is.f (a0 ++ (strOfNums y280))).bind fun t283 => (some (!t283))) else (none)))) else (some false)) else (some false)) else (some false))))))))))) = some r := by rw [if_neg (show ¬ (false = true) by decide)] at H; exact H
           clear H
           have H := H1
           clear H1
           replace H := Option.bind_eq_some_iff.mp H
           obtain ⟨⟨t263, t264⟩, A690, H⟩ := H
           replace H : ((int11_Of.f kj29 t263).bind fun bt265 => ((targumref4_IsDigit.f a1).bind fun t267 => (if t267 = true then (if t264 = true then (if bt265.2 = true then (if bt265.1.toList = t263.toList then (some true) else (some false)) else (some false)) else (some false)) else (if a1 = 95 then (if t264 = true then (if bt265.2 = true then (if bt265.1.toList = t263.toList then (some true) else (some false)) else (some false)) else (some false)) else (if a1 ≥ 97 then (if a1 ≤ 102 then (if t264 = true then (if bt265.2 = true then (if bt265.1.toList = t263.toList then (some true) else (some false)) else (some false)) else (some false)) else (if a1 ≥ 65 then (if a1 ≤ 70 then (if t264 = true then (if bt265.2 = true then (if bt265.1.toList = t263.toList then (some true) else (some false)) else (some false)) else (some false)) else (if a1 = 58 then (if t264 = true then (if bt265.2 = true then (if bt265.1.toList = t263.toList then (some true) else (some false)) else (some false)) else (some false)) else (if a1 = 120 then (if t264 = true then (if bt265.2 = true then (if bt265.1.toList = t263.toList then (some true) else (some false)) else (some false)) else (some false)) else (if t264 = true then (if bt265.2 = true then (if bt265.1.toList = t263.toList then (if a1 = 111 then (some true) else ((some (([a1] : List Int) : List Int)).bind fun y268 => (if a0.size + (strOfNums y268).size ≤ 9223372036854775807 then ((int11_Is.f (a0 ++ (strOfNums y268))).bind fun t271 => (some (!t271))) else (none)))) else (some false)) else (some false)) else (some false))))) else (if a1 = 58 then (if t264 = true then (if bt265.2 = true then (if bt265.1.toList = t263.toList then (some true) else (some false)) else (some false)) else (some false)) else (if a1 = 120 then (if t264 = true then (if bt265.2 = true then (if bt265.1.toList = t263.toList then (some true) else (some false)) else (some false)) else (some false)) else (if t264 = true then (if bt265.2 = true then (if bt265.1.toList = t263.toList then (if a1 = 111 then (some true) else ((some (([a1] : List Int) : List Int)).bind fun y272 => (if a0.size + (strOfNums y272).size ≤ 9223372036854775807 then ((int11_Is.f (a0 ++ (strOfNums y272))).bind fun t275 => (some (!t275))) else (none)))) else (some false)) else (some false)) else (some false)))))) else (if a1 ≥ 65 then (if a1 ≤ 70 then (if t264 = true then (if bt265.2 = true then (if bt265.1.toList = t263.toList then (some true) else (some false)) else (some false)) else (some false)) else (if a1 = 58 then (if t264 = true then (if bt265.2 = true then (if bt265.1.toList = t263.toList then (some true) else (some false)) else (some false)) else (some false)) else (if a1 = 120 then (if t264 = true then (if bt265.2 = true then (if bt265.1.toList = t263.toList then (some true) else (some false)) else (some false)) else (some false)) else (if t264 = true then (if bt265.2 = true then (if bt265.1.toList = t263.toList then (if a1 = 111 then (some true) else ((some (([a1] : List Int) : List Int)).bind fun y276 => (if a0.size + (strOfNums y276).size ≤ 9223372036854775807 then ((int11_Is.f (a0 ++ (strOfNums y276))).bind fun t279 => (some (!t279))) else (none)))) else (some false)) else (some false)) else (some false))))) else (if a1 = 58 then (if t264 = true then (if bt265.2 = true then (if bt265.1.toList = t263.toList then (some true) else (some false)) else (some false)) else (some false)) else (if a1 = 120 then (if t264 = true then (if bt265.2 = true then (if bt265.1.toList = t263.toList then (some true) else (some false)) else (some false)) else (some false)) else (if t264 = true then (if bt265.2 = true then (if bt265.1.toList = t263.toList then (if a1 = 111 then (some true) else ((some (([a1] : List Int) : List Int)).bind fun y280 => (if a0.size + (strOfNums y280).size ≤ 9223372036854775807 then ((int11_Is.f (a0 ++ (strOfNums y280))).bind fun t283 => (some (!t283))) else (none)))) else (some false)) else (some false)) else (some false)))))))))) = some r := H
           have A69 := Aside0.mk A690
           clear A690
           replace H := Option.bind_eq_some_iff.mp H
           obtain ⟨⟨t265, t266⟩, A700, H⟩ := H
           replace H : ((targumref4_IsDigit.f a1).bind fun t267 => (if t267 = true then (if t264 = true then (if t266 = true then (if t265.toList = t263.toList then (some true) else (some false)) else (some false)) else (some false)) else (if a1 = 95 then (if t264 = true then (if t266 = true then (if t265.toList = t263.toList then (some true) else (some false)) else (some false)) else (some false)) else (if a1 ≥ 97 then (if a1 ≤ 102 then (if t264 = true then (if t266 = true then (if t265.toList = t263.toList then (some true) else (some false)) else (some false)) else (some false)) else (if a1 ≥ 65 then (if a1 ≤ 70 then (if t264 = true then (if t266 = true then (if t265.toList = t263.toList then (some true) else (some false)) else (some false)) else (some false)) else (if a1 = 58 then (if t264 = true then (if t266 = true then (if t265.toList = t263.toList then (some true) else (some false)) else (some false)) else (some false)) else (if a1 = 120 then (if t264 = true then (if t266 = true then (if t265.toList = t263.toList then (some true) else (some false)) else (some false)) else (some false)) else (if t264 = true then (if t266 = true then (if t265.toList = t263.toList then (if a1 = 111 then (some true) else ((some (([a1] : List Int) : List Int)).bind fun y268 => (if a0.size + (strOfNums y268).size ≤ 9223372036854775807 then ((int11_Is.f (a0 ++ (strOfNums y268))).bind fun t271 => (some (!t271))) else (none)))) else (some false)) else (some false)) else (some false))))) else (if a1 = 58 then (if t264 = true then (if t266 = true then (if t265.toList = t263.toList then (some true) else (some false)) else (some false)) else (some false)) else (if a1 = 120 then (if t264 = true then (if t266 = true then (if t265.toList = t263.toList then (some true) else (some false)) else (some false)) else (some false)) else (if t264 = true then (if t266 = true then (if t265.toList = t263.toList then (if a1 = 111 then (some true) else ((some (([a1] : List Int) : List Int)).bind fun y272 => (if a0.size + (strOfNums y272).size ≤ 9223372036854775807 then ((int11_Is.f (a0 ++ (strOfNums y272))).bind fun t275 => (some (!t275))) else (none)))) else (some false)) else (some false)) else (some false)))))) else (if a1 ≥ 65 then (if a1 ≤ 70 then (if t264 = true then (if t266 = true then (if t265.toList = t263.toList then (some true) else (some false)) else (some false)) else (some false)) else (if a1 = 58 then (if t264 = true then (if t266 = true then (if t265.toList = t263.toList then (some true) else (some false)) else (some false)) else (some false)) else (if a1 = 120 then (if t264 = true then (if t266 = true then (if t265.toList = t263.toList then (some true) else (some false)) else (some false)) else (some false)) else (if t264 = true then (if t266 = true then (if t265.toList = t263.toList then (if a1 = 111 then (some true) else ((some (([a1] : List Int) : List Int)).bind fun y276 => (if a0.size + (strOfNums y276).size ≤ 9223372036854775807 then ((int11_Is.f (a0 ++ (strOfNums y276))).bind fun t279 => (some (!t279))) else (none)))) else (some false)) else (some false)) else (some false))))) else (if a1 = 58 then (if t264 = true then (if t266 = true then (if t265.toList = t263.toList then (some true) else (some false)) else (some false)) else (some false)) else (if a1 = 120 then (if t264 = true then (if t266 = true then (if t265.toList = t263.toList then (some true) else (some false)) else (some false)) else (some false)) else (if t264 = true then (if t266 = true then (if t265.toList = t263.toList then (if a1 = 111 then (some true) else ((some (([a1] : List Int) : List Int)).bind fun y280 => (if a0.size + (strOfNums y280).size ≤ 9223372036854775807 then ((int11_Is.f (a0 ++ (strOfNums y280))).bind fun t283 => (some (!t283))) else (none)))) else (some false)) else (some false)) else (some false))))))))) = some r := H
           have A70 := Aside0.mk A700
           clear A700
           replace H := Option.bind_eq_some_iff.mp H
           obtain ⟨t267, A710, H⟩ := H
           replace H : (if t267 = true then (if t264 = true then (if t266 = true then (if t265.toList = t263.toList then (some true) else (some false)) else (some false)) else (some false)) else (if a1 = 95 then (if t264 = true then (if t266 = true then (if t265.toList = t263.toList then (some true) else (some false)) else (some false)) else (some false)) else (if a1 ≥ 97 then (if a1 ≤ 102 then (if t264 = true then (if t266 = true then (if t265.toList = t263.toList then (some true) else (some false)) else (some false)) else (some false)) else (if a1 ≥ 65 then (if a1 ≤ 70 then (if t264 = true then (if t266 = true then (if t265.toList = t263.toList then (some true) else (some false)) else (some false)) else (some false)) else (if a1 = 58 then (if t264 = true then (if t266 = true then (if t265.toList = t263.toList then (some true) else (some false)) else (some false)) else (some false)) else (if a1 = 120 then (if t264 = true then (if t266 = true then (if t265.toList = t263.toList then (some true) else (some false)) else (some false)) else (some false)) else (if t264 = true then (if t266 = true then (if t265.toList = t263.toList then (if a1 = 111 then (some true) else ((some (([a1] : List Int) : List Int)).bind fun y268 => (if a0.size + (strOfNums y268).size ≤ 9223372036854775807 then ((int11_Is.f (a0 ++ (strOfNums y268))).bind fun t271 => (some (!t271))) else (none)))) else (some false)) else (some false)) else (some false))))) else (if a1 = 58 then (if t264 = true then (if t266 = true then (if t265.toList = t263.toList then (some true) else (some false)) else (some false)) else (some false)) else (if a1 = 120 then (if t264 = true then (if t266 = true then (if t265.toList = t263.toList then (some true) else (some false)) else (some false)) else (some false)) else (if t264 = true then (if t266 = true then (if t265.toList = t263.toList then (if a1 = 111 then (some true) else ((some (([a1] : List Int) : List Int)).bind fun y272 => (if a0.size + (strOfNums y272).size ≤ 9223372036854775807 then ((int11_Is.f (a0 ++ (strOfNums y272))).bind fun t275 => (some (!t275))) else (none)))) else (some false)) else (some false)) else (some false)))))) else (if a1 ≥ 65 then (if a1 ≤ 70 then (if t264 = true then (if t266 = true then (if t265.toList = t263.toList then (some true) else (some false)) else (some false)) else (some false)) else (if a1 = 58 then (if t264 = true then (if t266 = true then (if t265.toList = t263.toList then (some true) else (some false)) else (some false)) else (some false)) else (if a1 = 120 then (if t264 = true then (if t266 = true then (if t265.toList = t263.toList then (some true) else (some false)) else (some false)) else (some false)) else (if t264 = true then (if t266 = true then (if t265.toList = t263.toList then (if a1 = 111 then (some true) else ((some (([a1] : List Int) : List Int)).bind fun y276 => (if a0.size + (strOfNums y276).size ≤ 9223372036854775807 then ((int11_Is.f (a0 ++ (strOfNums y276))).bind fun t279 => (some (!t279))) else (none)))) else (some false)) else (some false)) else (some false))))) else (if a1 = 58 then (if t264 = true then (if t266 = true then (if t265.toList = t263.toList then (some true) else (some false)) else (some false)) else (some false)) else (if a1 = 120 then (if t264 = true then (if t266 = true then (if t265.toList = t263.toList then (some true) else (some false)) else (some false)) else (some false)) else (if t264 = true then (if t266 = true then (if t265.toList = t263.toList then (if a1 = 111 then (some true) else ((some (([a1] : List Int) : List Int)).bind fun y280 => (if a0.size + (strOfNums y280).size ≤ 9223372036854775807 then ((int11_Is.f (a0 ++ (strOfNums y280))).bind fun t283 => (some (!t283))) else (none)))) else (some false)) else (some false)) else (some false)))))))) = some r := H
           have A71 := Aside0.mk A710
           clear A710
           by_cases c72 : t267 = true
           ·subst c72
            have H1 : (if t264 = true then (if t266 = true then (if t265.toList = t263.toList then (some true) else (some false)) else (some false)) else (some false)) = some r := by rw [if_pos rfl] at H; exact H
            clear H
            have H := H1
            clear H1
            by_cases c73 : t264 = true
            ·subst c73
             have H1 : (if t266 = true then (if t265.toList = t263.toList then (some true) else (some false)) else (some false)) = some r := by rw [if_pos rfl] at H; exact H
             clear H
             have H := H1
             clear H1
             by_cases c74 : t266 = true
             ·subst c74
              have H1 : (if t265.toList = t263.toList then (some true) else (some false)) = some r := by rw [if_pos rfl] at H; exact H
              clear H
              have H := H1
              clear H1
              by_cases c75 : t265.toList = t263.toList
              ·rw [if_pos c75] at H
               have c75b0 : (t265.toList == t263.toList) = true := beq_iff_eq.mpr c75
               have c75b1 : (t265.toList != t263.toList) = false := bne_eq_false_iff_eq.mpr c75
               clear c75
               obtain rfl := Option.some.inj H
               go_wp2_with (first | ((with_reducible refine gate_callee (f := 13) rfl ?_); refine goesL_ (some 91) rfl rfl Tryd.func13 (by kernel_rfl) rfl #[.string a0] rfl (by (try simp only [List.map_toArray, List.map_cons, List.map_nil]); first | done | rfl | (simp only [List.length_drop, List.length_take]; rfl)) ?_; (with_reducible refine (int11_Of.calls kj29 a0 t263 true _ ?side1 A69.out).mono ?_); (case side1 => exact Go.Proofs.YtkijneohhilboaaDoor.PIT.Tabs_below HG.out bl); rintro e w76 ⟨rfl, hb⟩; refine ⟨_, rfl, ?_⟩; have n0_ := Aside0.mk (below_step bl hb); clear HB; have HB := n0_; clear n0_; (try clear hb); (try clear hb2); (try clear hk); (try clear hi)) | ((with_reducible refine gate_callee (f := 13) rfl ?_); refine goesL_ (some 96) rfl rfl Tryd.func13 (by kernel_rfl) rfl #[.string t263] rfl (by (try simp only [List.map_toArray, List.map_cons, List.map_nil]); first | done | rfl | (simp only [List.length_drop, List.length_take]; rfl)) ?_; (with_reducible refine (int11_Of.calls kj29 t263 t265 true _ ?side1 A70.out).mono ?_); (case side1 => exact Go.Proofs.YtkijneohhilboaaDoor.PIT.Tabs_below HG.out bl); rintro e w77 ⟨rfl, hb⟩; refine ⟨_, rfl, ?_⟩; have n0_ := Aside0.mk (below_step bl hb); clear HB; have HB := n0_; clear n0_; (try clear hb); (try clear hb2); (try clear hk); (try clear hi)) | ((with_reducible refine gate_callee (f := 17) rfl ?_); refine goesL_ (some 100) rfl rfl Tryd.func17 (by kernel_rfl) rfl #[.int .u8 a1] rfl (by (try simp only [List.map_toArray, List.map_cons, List.map_nil]); first | done | rfl | (simp only [List.length_drop, List.length_take]; rfl)) ?_; (with_reducible refine (targumref4_IsDigit.calls a1 true _ A71.out).mono ?_); rintro e w' ⟨rfl, ⟨nd, rfl⟩⟩; refine ⟨_, rfl, ?_⟩))
               go_ret
               exact ⟨by first | rfl | (simp [errW_none, errW_some] <;> rfl) | (simp [*, errW_none, errW_some] <;> rfl), bl⟩
              ·rw [if_neg c75] at H
               have c75b0 : (t265.toList == t263.toList) = false := beq_eq_false_iff_ne.mpr c75
               have c75b1 : (t265.toList != t263.toList) = true := bne_iff_ne.mpr c75
               obtain rfl := Option.some.inj H
               go_wp2_with (first | ((with_reducible refine gate_callee (f := 13) rfl ?_); refine goesL_ (some 91) rfl rfl Tryd.func13 (by kernel_rfl) rfl #[.string a0] rfl (by (try simp only [List.map_toArray, List.map_cons, List.map_nil]); first | done | rfl | (simp only [List.length_drop, List.length_take]; rfl)) ?_; (with_reducible refine (int11_Of.calls kj29 a0 t263 true _ ?side1 A69.out).mono ?_); (case side1 => exact Go.Proofs.YtkijneohhilboaaDoor.PIT.Tabs_below HG.out bl); rintro e w78 ⟨rfl, hb⟩; refine ⟨_, rfl, ?_⟩; have n0_ := Aside0.mk (below_step bl hb); clear HB; have HB := n0_; clear n0_; (try clear hb); (try clear hb2); (try clear hk); (try clear hi)) | ((with_reducible refine gate_callee (f := 13) rfl ?_); refine goesL_ (some 96) rfl rfl Tryd.func13 (by kernel_rfl) rfl #[.string t263] rfl (by (try simp only [List.map_toArray, List.map_cons, List.map_nil]); first | done | rfl | (simp only [List.length_drop, List.length_take]; rfl)) ?_; (with_reducible refine (int11_Of.calls kj29 t263 t265 true _ ?side1 A70.out).mono ?_); (case side1 => exact Go.Proofs.YtkijneohhilboaaDoor.PIT.Tabs_below HG.out bl); rintro e w79 ⟨rfl, hb⟩; refine ⟨_, rfl, ?_⟩; have n0_ := Aside0.mk (below_step bl hb); clear HB; have HB := n0_; clear n0_; (try clear hb); (try clear hb2); (try clear hk); (try clear hi)) | ((with_reducible refine gate_callee (f := 17) rfl ?_); refine goesL_ (some 100) rfl rfl Tryd.func17 (by kernel_rfl) rfl #[.int .u8 a1] rfl (by (try simp only [List.map_toArray, List.map_cons, List.map_nil]); first | done | rfl | (simp only [List.length_drop, List.length_take]; rfl)) ?_; (with_reducible refine (targumref4_IsDigit.calls a1 true _ A71.out).mono ?_); rintro e w' ⟨rfl, ⟨nd, rfl⟩⟩; refine ⟨_, rfl, ?_⟩))
               go_ret
               exact ⟨by first | rfl | (simp [errW_none, errW_some] <;> rfl) | (simp [*, errW_none, errW_some] <;> rfl), bl⟩
             ·replace c74 := Bool.eq_false_iff.mpr c74
              subst c74
              have H1 : (some false) = some r := by rw [if_neg (show ¬ (false = true) by decide)] at H; exact H
              clear H
              have H := H1
              clear H1
              obtain rfl := Option.some.inj H
              go_wp2_with (first | ((with_reducible refine gate_callee (f := 13) rfl ?_); refine goesL_ (some 91) rfl rfl Tryd.func13 (by kernel_rfl) rfl #[.string a0] rfl (by (try simp only [List.map_toArray, List.map_cons, List.map_nil]); first | done | rfl | (simp only [List.length_drop, List.length_take]; rfl)) ?_; (with_reducible refine (int11_Of.calls kj29 a0 t263 true _ ?side1 A69.out).mono ?_); (case side1 => exact Go.Proofs.YtkijneohhilboaaDoor.PIT.Tabs_below HG.out bl); rintro e w80 ⟨rfl, hb⟩; refine ⟨_, rfl, ?_⟩; have n0_ := Aside0.mk (below_step bl hb); clear HB; have HB := n0_; clear n0_; (try clear hb); (try clear hb2); (try clear hk); (try clear hi)) | ((with_reducible refine gate_callee (f := 13) rfl ?_); refine goesL_ (some 96) rfl rfl Tryd.func13 (by kernel_rfl) rfl #[.string t263] rfl (by (try simp only [List.map_toArray, List.map_cons, List.map_nil]); first | done | rfl | (simp only [List.length_drop, List.length_take]; rfl)) ?_; (with_reducible refine (int11_Of.calls kj29 t263 t265 false _ ?side1 A70.out).mono ?_); (case side1 => exact Go.Proofs.YtkijneohhilboaaDoor.PIT.Tabs_below HG.out bl); rintro e w81 ⟨rfl, hb⟩; refine ⟨_, rfl, ?_⟩; have n0_ := Aside0.mk (below_step bl hb); clear HB; have HB := n0_; clear n0_; (try clear hb); (try clear hb2); (try clear hk); (try clear hi)) | ((with_reducible refine gate_callee (f := 17) rfl ?_); refine goesL_ (some 100) rfl rfl Tryd.func17 (by kernel_rfl) rfl #[.int .u8 a1] rfl (by (try simp only [List.map_toArray, List.map_cons, List.map_nil]); first | done | rfl | (simp only [List.length_drop, List.length_take]; rfl)) ?_; (with_reducible refine (targumref4_IsDigit.calls a1 true _ A71.out).mono ?_); rintro e w' ⟨rfl, ⟨nd, rfl⟩⟩; refine ⟨_, rfl, ?_⟩))
              go_ret
              exact ⟨by first | rfl | (simp [errW_none, errW_some] <;> rfl) | (simp [*, errW_none, errW_some] <;> rfl), bl⟩
            ·replace c73 := Bool.eq_false_iff.mpr c73
             subst c73
             have H1 : (some false) = some r := by rw [if_neg (show ¬ (false = true) by decide)] at H; exact H
             clear H
             have H := H1
             clear H1
             obtain rfl := Option.some.inj H
             go_wp2_with (first | ((with_reducible refine gate_callee (f := 13) rfl ?_); refine goesL_ (some 91) rfl rfl Tryd.func13 (by kernel_rfl) rfl #[.string a0] rfl (by (try simp only [List.map_toArray, List.map_cons, List.map_nil]); first | done | rfl | (simp only [List.length_drop, List.length_take]; rfl)) ?_; (with_reducible refine (int11_Of.calls kj29 a0 t263 false _ ?side1 A69.out).mono ?_); (case side1 => exact Go.Proofs.YtkijneohhilboaaDoor.PIT.Tabs_below HG.out bl); rintro e w82 ⟨rfl, hb⟩; refine ⟨_, rfl, ?_⟩; have n0_ := Aside0.mk (below_step bl hb); clear HB; have HB := n0_; clear n0_; (try clear hb); (try clear hb2); (try clear hk); (try clear hi)) | ((with_reducible refine gate_callee (f := 13) rfl ?_); refine goesL_ (some 96) rfl rfl Tryd.func13 (by kernel_rfl) rfl #[.string t263] rfl (by (try simp only [List.map_toArray, List.map_cons, List.map_nil]); first | done | rfl | (simp only [List.length_drop, List.length_take]; rfl)) ?_; (with_reducible refine (int11_Of.calls kj29 t263 t265 t266 _ ?side1 A70.out).mono ?_); (case side1 => exact Go.Proofs.YtkijneohhilboaaDoor.PIT.Tabs_below HG.out bl); rintro e w83 ⟨rfl, hb⟩; refine ⟨_, rfl, ?_⟩; have n0_ := Aside0.mk (below_step bl hb); clear HB; have HB := n0_; clear n0_; (try clear hb); (try clear hb2); (try clear hk); (try clear hi)) | ((with_reducible refine gate_callee (f := 17) rfl ?_); refine goesL_ (some 100) rfl rfl Tryd.func17 (by kernel_rfl) rfl #[.int .u8 a1] rfl (by (try simp only [List.map_toArray, List.map_cons, List.map_nil]); first | done | rfl | (simp only [List.length_drop, List.length_take]; rfl)) ?_; (with_reducible refine (targumref4_IsDigit.calls a1 true _ A71.out).mono ?_); rintro e w' ⟨rfl, ⟨nd, rfl⟩⟩; refine ⟨_, rfl, ?_⟩))
             go_ret
             exact ⟨by first | rfl | (simp [errW_none, errW_some] <;> rfl) | (simp [*, errW_none, errW_some] <;> rfl), bl⟩
           ·as_aux_lemma =>
            replace c72 := Bool.eq_false_iff.mpr c72
            subst c72
            have H1 : (if a1 = 95 then (if t264 = true then (if t266 = true then (if t265.toList = t263.toList then (some true) else (some false)) else (some false)) else (some false)) else (if a1 ≥ 97 then (if a1 ≤ 102 then (if t264 = true then (if t266 = true then (if t265.toList = t263.toList then (some true) else (some false)) else (some false)) else (some false)) else (if a1 ≥ 65 then (if a1 ≤ 70 then (if t264 = true then (if t266 = true then (if t265.toList = t263.toList then (some true) else (some false)) else (some false)) else (some false)) else (if a1 = 58 then (if t264 = true then (if t266 = true then (if t265.toList = t263.toList then (some true) else (some false)) else (some false)) else (some false)) else (if a1 = 120 then (if t264 = true then (if t266 = true then (if t265.toList = t263.toList then (some true) else (some false)) else (some false)) else (some false)) else (if t264 = true then (if t266 = true then (if t265.toList = t263.toList then (if a1 = 111 then (some true) else ((some (([a1] : List Int) : List Int)).bind fun y268 => (if a0.size + (strOfNums y268).size ≤ 9223372036854775807 then ((int11_Is.f (a0 ++ (strOfNums y268))).bind fun t271 => (some (!t271))) else (none)))) else (some false)) else (some false)) else (some false))))) else (if a1 = 58 then (if t264 = true then (if t266 = true then (if t265.toList = t263.toList then (some true) else (some false)) else (some false)) else (some false)) else (if a1 = 120 then (if t264 = true then (if t266 = true then (if t265.toList = t263.toList then (some true) else (some false)) else (some false)) else (some false)) else (if t264 = true then (if t266 = true then (if t265.toList = t263.toList then (if a1 = 111 then (some true) else ((some (([a1] : List Int) : List Int)).bind fun y272 => (if a0.size + (strOfNums y272).size ≤ 9223372036854775807 then ((int11_Is.f (a0 ++ (strOfNums y272))).bind fun t275 => (some (!t275))) else (none)))) else (some false)) else (some false)) else (some false)))))) else (if a1 ≥ 65 then (if a1 ≤ 70 then (if t264 = true then (if t266 = true then (if t265.toList = t263.toList then (some true) else (some false)) else (some false)) else (some false)) else (if a1 = 58 then (if t264 = true then (if t266 = true then (if t265.toList = t263.toList then (some true) else (some false)) else (some false)) else (some false)) else (if a1 = 120 then (if t264 = true then (if t266 = true then (if t265.toList = t263.toList then (some true) else (some false)) else (some false)) else (some false)) else (if t264 = true then (if t266 = true then (if t265.toList = t263.toList then (if a1 = 111 then (some true) else ((some (([a1] : List Int) : List Int)).bind fun y276 => (if a0.size + (strOfNums y276).size ≤ 9223372036854775807 then ((int11_Is.f (a0 ++ (strOfNums y276))).bind fun t279 => (some (!t279))) else (none)))) else (some false)) else (some false)) else (some false))))) else (if a1 = 58 then (if t264 = true then (if t266 = true then (if t265.toList = t263.toList then (some true) else (some false)) else (some false)) else (some false)) else (if a1 = 120 then (if t264 = true then (if t266 = true then (if t265.toList = t263.toList then (some true) else (some false)) else (some false)) else (some false)) else (if t264 = true then (if t266 = true then (if t265.toList = t263.toList then (if a1 = 111 then (some true) else ((some (([a1] : List Int) : List Int)).bind fun y280 => (if a0.size + (strOfNums y280).size ≤ 9223372036854775807 then ((int11_Is.f (a0 ++ (strOfNums y280))).bind fun t283 => (some (!t283))) else (none)))) else (some false)) else (some false)) else (some false))))))) = some r := by rw [if_neg (show ¬ (false = true) by decide)] at H; exact H
            clear H
            have H := H1
            clear H1
            by_cases c84 : a1 = 95
            ·rw [if_pos c84] at H
             have c84b0 : (a1 == 95) = true := beq_iff_eq.mpr c84
             have c84b1 : (a1 != 95) = false := bne_eq_false_iff_eq.mpr c84
             clear c84
             by_cases c85 : t264 = true
             ·subst c85
              have H1 : (if t266 = true then (if t265.toList = t263.toList then (some true) else (some false)) else (some false)) = some r := by rw [if_pos rfl] at H; exact H
              clear H
              have H := H1
              clear H1
              by_cases c86 : t266 = true
              ·subst c86
               have H1 : (if t265.toList = t263.toList then (some true) else (some false)) = some r := by rw [if_pos rfl] at H; exact H
               clear H
               have H := H1
               clear H1
               by_cases c87 : t265.toList = t263.toList
               ·rw [if_pos c87] at H
                have c87b0 : (t265.toList == t263.toList) = true := beq_iff_eq.mpr c87
                have c87b1 : (t265.toList != t263.toList) = false := bne_eq_false_iff_eq.mpr c87
                clear c87
                obtain rfl := Option.some.inj H
                go_wp2_with (first | ((with_reducible refine gate_callee (f := 13) rfl ?_); refine goesL_ (some 91) rfl rfl Tryd.func13 (by kernel_rfl) rfl #[.string a0] rfl (by (try simp only [List.map_toArray, List.map_cons, List.map_nil]); first | done | rfl | (simp only [List.length_drop, List.length_take]; rfl)) ?_; (with_reducible refine (int11_Of.calls kj29 a0 t263 true _ ?side1 A69.out).mono ?_); (case side1 => exact Go.Proofs.YtkijneohhilboaaDoor.PIT.Tabs_below HG.out bl); rintro e w88 ⟨rfl, hb⟩; refine ⟨_, rfl, ?_⟩; have n0_ := Aside0.mk (below_step bl hb); clear HB; have HB := n0_; clear n0_; (try clear hb); (try clear hb2); (try clear hk); (try clear hi)) | ((with_reducible refine gate_callee (f := 13) rfl ?_); refine goesL_ (some 96) rfl rfl Tryd.func13 (by kernel_rfl) rfl #[.string t263] rfl (by (try simp only [List.map_toArray, List.map_cons, List.map_nil]); first | done | rfl | (simp only [List.length_drop, List.length_take]; rfl)) ?_; (with_reducible refine (int11_Of.calls kj29 t263 t265 true _ ?side1 A70.out).mono ?_); (case side1 => exact Go.Proofs.YtkijneohhilboaaDoor.PIT.Tabs_below HG.out bl); rintro e w89 ⟨rfl, hb⟩; refine ⟨_, rfl, ?_⟩; have n0_ := Aside0.mk (below_step bl hb); clear HB; have HB := n0_; clear n0_; (try clear hb); (try clear hb2); (try clear hk); (try clear hi)) | ((with_reducible refine gate_callee (f := 17) rfl ?_); refine goesL_ (some 100) rfl rfl Tryd.func17 (by kernel_rfl) rfl #[.int .u8 a1] rfl (by (try simp only [List.map_toArray, List.map_cons, List.map_nil]); first | done | rfl | (simp only [List.length_drop, List.length_take]; rfl)) ?_; (with_reducible refine (targumref4_IsDigit.calls a1 false _ A71.out).mono ?_); rintro e w' ⟨rfl, ⟨nd, rfl⟩⟩; refine ⟨_, rfl, ?_⟩))
                go_ret
                exact ⟨by first | rfl | (simp [errW_none, errW_some] <;> rfl) | (simp [*, errW_none, errW_some] <;> rfl), bl⟩
               ·rw [if_neg c87] at H
                have c87b0 : (t265.toList == t263.toList) = false := beq_eq_false_iff_ne.mpr c87
                have c87b1 : (t265.toList != t263.toList) = true := bne_iff_ne.mpr c87
                obtain rfl := Option.some.inj H
                go_wp2_with (first | ((with_reducible refine gate_callee (f := 13) rfl ?_); refine goesL_ (some 91) rfl rfl Tryd.func13 (by kernel_rfl) rfl #[.string a0] rfl (by (try simp only [List.map_toArray, List.map_cons, List.map_nil]); first | done | rfl | (simp only [List.length_drop, List.length_take]; rfl)) ?_; (with_reducible refine (int11_Of.calls kj29 a0 t263 true _ ?side1 A69.out).mono ?_); (case side1 => exact Go.Proofs.YtkijneohhilboaaDoor.PIT.Tabs_below HG.out bl); rintro e w90 ⟨rfl, hb⟩; refine ⟨_, rfl, ?_⟩; have n0_ := Aside0.mk (below_step bl hb); clear HB; have HB := n0_; clear n0_; (try clear hb); (try clear hb2); (try clear hk); (try clear hi)) | ((with_reducible refine gate_callee (f := 13) rfl ?_); refine goesL_ (some 96) rfl rfl Tryd.func13 (by kernel_rfl) rfl #[.string t263] rfl (by (try simp only [List.map_toArray, List.map_cons, List.map_nil]); first | done | rfl | (simp only [List.length_drop, List.length_take]; rfl)) ?_; (with_reducible refine (int11_Of.calls kj29 t263 t265 true _ ?side1 A70.out).mono ?_); (case side1 => exact Go.Proofs.YtkijneohhilboaaDoor.PIT.Tabs_below HG.out bl); rintro e w91 ⟨rfl, hb⟩; refine ⟨_, rfl, ?_⟩; have n0_ := Aside0.mk (below_step bl hb); clear HB; have HB := n0_; clear n0_; (try clear hb); (try clear hb2); (try clear hk); (try clear hi)) | ((with_reducible refine gate_callee (f := 17) rfl ?_); refine goesL_ (some 100) rfl rfl Tryd.func17 (by kernel_rfl) rfl #[.int .u8 a1] rfl (by (try simp only [List.map_toArray, List.map_cons, List.map_nil]); first | done | rfl | (simp only [List.length_drop, List.length_take]; rfl)) ?_; (with_reducible refine (targumref4_IsDigit.calls a1 false _ A71.out).mono ?_); rintro e w' ⟨rfl, ⟨nd, rfl⟩⟩; refine ⟨_, rfl, ?_⟩))
                go_ret
                exact ⟨by first | rfl | (simp [errW_none, errW_some] <;> rfl) | (simp [*, errW_none, errW_some] <;> rfl), bl⟩
              ·replace c86 := Bool.eq_false_iff.mpr c86
               subst c86
               have H1 : (some false) = some r := by rw [if_neg (show ¬ (false = true) by decide)] at H; exact H
               clear H
               have H := H1
               clear H1
               obtain rfl := Option.some.inj H
               go_wp2_with (first | ((with_reducible refine gate_callee (f := 13) rfl ?_); refine goesL_ (some 91) rfl rfl Tryd.func13 (by kernel_rfl) rfl #[.string a0] rfl (by (try simp only [List.map_toArray, List.map_cons, List.map_nil]); first | done | rfl | (simp only [List.length_drop, List.length_take]; rfl)) ?_; (with_reducible refine (int11_Of.calls kj29 a0 t263 true _ ?side1 A69.out).mono ?_); (case side1 => exact Go.Proofs.YtkijneohhilboaaDoor.PIT.Tabs_below HG.out bl); rintro e w92 ⟨rfl, hb⟩; refine ⟨_, rfl, ?_⟩; have n0_ := Aside0.mk (below_step bl hb); clear HB; have HB := n0_; clear n0_; (try clear hb); (try clear hb2); (try clear hk); (try clear hi)) | ((with_reducible refine gate_callee (f := 13) rfl ?_); refine goesL_ (some 96) rfl rfl Tryd.func13 (by kernel_rfl) rfl #[.string t263] rfl (by (try simp only [List.map_toArray, List.map_cons, List.map_nil]); first | done | rfl | (simp only [List.length_drop, List.length_take]; rfl)) ?_; (with_reducible refine (int11_Of.calls kj29 t263 t265 false _ ?side1 A70.out).mono ?_); (case side1 => exact Go.Proofs.YtkijneohhilboaaDoor.PIT.Tabs_below HG.out bl); rintro e w93 ⟨rfl, hb⟩; refine ⟨_, rfl, ?_⟩; have n0_ := Aside0.mk (below_step bl hb); clear HB; have HB := n0_; clear n0_; (try clear hb); (try clear hb2); (try clear hk); (try clear hi)) | ((with_reducible refine gate_callee (f := 17) rfl ?_); refine goesL_ (some 100) rfl rfl Tryd.func17 (by kernel_rfl) rfl #[.int .u8 a1] rfl (by (try simp only [List.map_toArray, List.map_cons, List.map_nil]); first | done | rfl | (simp only [List.length_drop, List.length_take]; rfl)) ?_; (with_reducible refine (targumref4_IsDigit.calls a1 false _ A71.out).mono ?_); rintro e w' ⟨rfl, ⟨nd, rfl⟩⟩; refine ⟨_, rfl, ?_⟩))
               go_ret
               exact ⟨by first | rfl | (simp [errW_none, errW_some] <;> rfl) | (simp [*, errW_none, errW_some] <;> rfl), bl⟩
             ·replace c85 := Bool.eq_false_iff.mpr c85
              subst c85
              have H1 : (some false) = some r := by rw [if_neg (show ¬ (false = true) by decide)] at H; exact H
              clear H
              have H := H1
              clear H1
              obtain rfl := Option.some.inj H
              go_wp2_with (first | ((with_reducible refine gate_callee (f := 13) rfl ?_); refine goesL_ (some 91) rfl rfl Tryd.func13 (by kernel_rfl) rfl #[.string a0] rfl (by (try simp only [List.map_toArray, List.map_cons, List.map_nil]); first | done | rfl | (simp only [List.length_drop, List.length_take]; rfl)) ?_; (with_reducible refine (int11_Of.calls kj29 a0 t263 false _ ?side1 A69.out).mono ?_); (case side1 => exact Go.Proofs.YtkijneohhilboaaDoor.PIT.Tabs_below HG.out bl); rintro e w94 ⟨rfl, hb⟩; refine ⟨_, rfl, ?_⟩; have n0_ := Aside0.mk (below_step bl hb); clear HB; have HB := n0_; clear n0_; (try clear hb); (try clear hb2); (try clear hk); (try clear hi)) | ((with_reducible refine gate_callee (f := 13) rfl ?_); refine goesL_ (some 96) rfl rfl Tryd.func13 (by kernel_rfl) rfl #[.string t263] rfl (by (try simp only [List.map_toArray, List.map_cons, List.map_nil]); first | done | rfl | (simp only [List.length_drop, List.length_take]; rfl)) ?_; (with_reducible refine (int11_Of.calls kj29 t263 t265 t266 _ ?side1 A70.out).mono ?_); (case side1 => exact Go.Proofs.YtkijneohhilboaaDoor.PIT.Tabs_below HG.out bl); rintro e w95 ⟨rfl, hb⟩; refine ⟨_, rfl, ?_⟩; have n0_ := Aside0.mk (below_step bl hb); clear HB; have HB := n0_; clear n0_; (try clear hb); (try clear hb2); (try clear hk); (try clear hi)) | ((with_reducible refine gate_callee (f := 17) rfl ?_); refine goesL_ (some 100) rfl rfl Tryd.func17 (by kernel_rfl) rfl #[.int .u8 a1] rfl (by (try simp only [List.map_toArray, List.map_cons, List.map_nil]); first | done | rfl | (simp only [List.length_drop, List.length_take]; rfl)) ?_; (with_reducible refine (targumref4_IsDigit.calls a1 false _ A71.out).mono ?_); rintro e w' ⟨rfl, ⟨nd, rfl⟩⟩; refine ⟨_, rfl, ?_⟩))
              go_ret
              exact ⟨by first | rfl | (simp [errW_none, errW_some] <;> rfl) | (simp [*, errW_none, errW_some] <;> rfl), bl⟩
            ·as_aux_lemma =>
             rw [if_neg c84] at H
             have c84b0 : (a1 == 95) = false := beq_eq_false_iff_ne.mpr c84
             have c84b1 : (a1 != 95) = true := bne_iff_ne.mpr c84
             by_cases c96 : a1 ≥ 97
             ·as_aux_lemma =>
              rw [if_pos c96] at H
              have c96b0 : decide (97 ≤ a1) = true := decide_eq_true c96
              clear c96
              by_cases c97 : a1 ≤ 102
              ·rw [if_pos c97] at H
               have c97b0 : decide (a1 ≤ 102) = true := decide_eq_true c97
               clear c97
               by_cases c98 : t264 = true
               ·subst c98
                have H1 : (if t266 = true then (if t265.toList = t263.toList then (some true) else (some false)) else (some false)) = some r := by rw [if_pos rfl] at H; exact H
                clear H
                have H := H1
                clear H1
                by_cases c99 : t266 = true
                ·subst c99
                 have H1 : (if t265.toList = t263.toList then (some true) else (some false)) = some r := by rw [if_pos rfl] at H; exact H
                 clear H
                 have H := H1
                 clear H1
                 by_cases c100 : t265.toList = t263.toList
                 ·rw [if_pos c100] at H
                  have c100b0 : (t265.toList == t263.toList) = true := beq_iff_eq.mpr c100
                  have c100b1 : (t265.toList != t263.toList) = false := bne_eq_false_iff_eq.mpr c100
                  clear c100
                  obtain rfl := Option.some.inj H
                  go_wp2_with (first | ((with_reducible refine gate_callee (f := 13) rfl ?_); refine goesL_ (some 91) rfl rfl Tryd.func13 (by kernel_rfl) rfl #[.string a0] rfl (by (try simp only [List.map_toArray, List.map_cons, List.map_nil]); first | done | rfl | (simp only [List.length_drop, List.length_take]; rfl)) ?_; (with_reducible refine (int11_Of.calls kj29 a0 t263 true _ ?side1 A69.out).mono ?_); (case side1 => exact Go.Proofs.YtkijneohhilboaaDoor.PIT.Tabs_below HG.out bl); rintro e w101 ⟨rfl, hb⟩; refine ⟨_, rfl, ?_⟩; have n0_ := Aside0.mk (below_step bl hb); clear HB; have HB := n0_; clear n0_; (try clear hb); (try clear hb2); (try clear hk); (try clear hi)) | ((with_reducible refine gate_callee (f := 13) rfl ?_); refine goesL_ (some 96) rfl rfl Tryd.func13 (by kernel_rfl) rfl #[.string t263] rfl (by (try simp only [List.map_toArray, List.map_cons, List.map_nil]); first | done | rfl | (simp only [List.length_drop, List.length_take]; rfl)) ?_; (with_reducible refine (int11_Of.calls kj29 t263 t265 true _ ?side1 A70.out).mono ?_); (case side1 => exact Go.Proofs.YtkijneohhilboaaDoor.PIT.Tabs_below HG.out bl); rintro e w102 ⟨rfl, hb⟩; refine ⟨_, rfl, ?_⟩; have n0_ := Aside0.mk (below_step bl hb); clear HB; have HB := n0_; clear n0_; (try clear hb); (try clear hb2); (try clear hk); (try clear hi)) | ((with_reducible refine gate_callee (f := 17) rfl ?_); refine goesL_ (some 100) rfl rfl Tryd.func17 (by kernel_rfl) rfl #[.int .u8 a1] rfl (by (try simp only [List.map_toArray, List.map_cons, List.map_nil]); first | done | rfl | (simp only [List.length_drop, List.length_take]; rfl)) ?_; (with_reducible refine (targumref4_IsDigit.calls a1 false _ A71.out).mono ?_); rintro e w' ⟨rfl, ⟨nd, rfl⟩⟩; refine ⟨_, rfl, ?_⟩))
                  go_ret
                  exact ⟨by first | rfl | (simp [errW_none, errW_some] <;> rfl) | (simp [*, errW_none, errW_some] <;> rfl), bl⟩
                 ·rw [if_neg c100] at H
                  have c100b0 : (t265.toList == t263.toList) = false := beq_eq_false_iff_ne.mpr c100
                  have c100b1 : (t265.toList != t263.toList) = true := bne_iff_ne.mpr c100
                  obtain rfl := Option.some.inj H
                  go_wp2_with (first | ((with_reducible refine gate_callee (f := 13) rfl ?_); refine goesL_ (some 91) rfl rfl Tryd.func13 (by kernel_rfl) rfl #[.string a0] rfl (by (try simp only [List.map_toArray, List.map_cons, List.map_nil]); first | done | rfl | (simp only [List.length_drop, List.length_take]; rfl)) ?_; (with_reducible refine (int11_Of.calls kj29 a0 t263 true _ ?side1 A69.out).mono ?_); (case side1 => exact Go.Proofs.YtkijneohhilboaaDoor.PIT.Tabs_below HG.out bl); rintro e w103 ⟨rfl, hb⟩; refine ⟨_, rfl, ?_⟩; have n0_ := Aside0.mk (below_step bl hb); clear HB; have HB := n0_; clear n0_; (try clear hb); (try clear hb2); (try clear hk); (try clear hi)) | ((with_reducible refine gate_callee (f := 13) rfl ?_); refine goesL_ (some 96) rfl rfl Tryd.func13 (by kernel_rfl) rfl #[.string t263] rfl (by (try simp only [List.map_toArray, List.map_cons, List.map_nil]); first | done | rfl | (simp only [List.length_drop, List.length_take]; rfl)) ?_; (with_reducible refine (int11_Of.calls kj29 t263 t265 true _ ?side1 A70.out).mono ?_); (case side1 => exact Go.Proofs.YtkijneohhilboaaDoor.PIT.Tabs_below HG.out bl); rintro e w104 ⟨rfl, hb⟩; refine ⟨_, rfl, ?_⟩; have n0_ := Aside0.mk (below_step bl hb); clear HB; have HB := n0_; clear n0_; (try clear hb); (try clear hb2); (try clear hk); (try clear hi)) | ((with_reducible refine gate_callee (f := 17) rfl ?_); refine goesL_ (some 100) rfl rfl Tryd.func17 (by kernel_rfl) rfl #[.int .u8 a1] rfl (by (try simp only [List.map_toArray, List.map_cons, List.map_nil]); first | done | rfl | (simp only [List.length_drop, List.length_take]; rfl)) ?_; (with_reducible refine (targumref4_IsDigit.calls a1 false _ A71.out).mono ?_); rintro e w' ⟨rfl, ⟨nd, rfl⟩⟩; refine ⟨_, rfl, ?_⟩))
                  go_ret
                  exact ⟨by first | rfl | (simp [errW_none, errW_some] <;> rfl) | (simp [*, errW_none, errW_some] <;> rfl), bl⟩
                ·replace c99 := Bool.eq_false_iff.mpr c99
                 subst c99
                 have H1 : (some false) = some r := by rw [if_neg (show ¬ (false = true) by decide)] at H; exact H
                 clear H
                 have H := H1
                 clear H1
                 obtain rfl := Option.some.inj H
                 go_wp2_with (first | ((with_reducible refine gate_callee (f := 13) rfl ?_); refine goesL_ (some 91) rfl rfl Tryd.func13 (by kernel_rfl) rfl #[.string a0] rfl (by (try simp only [List.map_toArray, List.map_cons, List.map_nil]); first | done | rfl | (simp only [List.length_drop, List.length_take]; rfl)) ?_; (with_reducible refine (int11_Of.calls kj29 a0 t263 true _ ?side1 A69.out).mono ?_); (case side1 => exact Go.Proofs.YtkijneohhilboaaDoor.PIT.Tabs_below HG.out bl); rintro e w105 ⟨rfl, hb⟩; refine ⟨_, rfl, ?_⟩; have n0_ := Aside0.mk (below_step bl hb); clear HB; have HB := n0_; clear n0_; (try clear hb); (try clear hb2); (try clear hk); (try clear hi)) | ((with_reducible refine gate_callee (f := 13) rfl ?_); refine goesL_ (some 96) rfl rfl Tryd.func13 (by kernel_rfl) rfl #[.string t263] rfl (by (try simp only [List.map_toArray, List.map_cons, List.map_nil]); first | done | rfl | (simp only [List.length_drop, List.length_take]; rfl)) ?_; (with_reducible refine (int11_Of.calls kj29 t263 t265 false _ ?side1 A70.out).mono ?_); (case side1 => exact Go.Proofs.YtkijneohhilboaaDoor.PIT.Tabs_below HG.out bl); rintro e w106 ⟨rfl, hb⟩; refine ⟨_, rfl, ?_⟩; have n0_ := Aside0.mk (below_step bl hb); clear HB; have HB := n0_; clear n0_; (try clear hb); (try clear hb2); (try clear hk); (try clear hi)) | ((with_reducible refine gate_callee (f := 17) rfl ?_); refine goesL_ (some 100) rfl rfl Tryd.func17 (by kernel_rfl) rfl #[.int .u8 a1] rfl (by (try simp only [List.map_toArray, List.map_cons, List.map_nil]); first | done | rfl | (simp only [List.length_drop, List.length_take]; rfl)) ?_; (with_reducible refine (targumref4_IsDigit.calls a1 false _ A71.out).mono ?_); rintro e w' ⟨rfl, ⟨nd, rfl⟩⟩; refine ⟨_, rfl, ?_⟩))
                 go_ret
                 exact ⟨by first | rfl | (simp [errW_none, errW_some] <;> rfl) | (simp [*, errW_none, errW_some] <;> rfl), bl⟩
               ·replace c98 := Bool.eq_false_iff.mpr c98
                subst c98
                have H1 : (some false) = some r := by rw [if_neg (show ¬ (false = true) by decide)] at H; exact H
                clear H
                have H := H1
                clear H1
                obtain rfl := Option.some.inj H
                go_wp2_with (first | ((with_reducible refine gate_callee (f := 13) rfl ?_); refine goesL_ (some 91) rfl rfl Tryd.func13 (by kernel_rfl) rfl #[.string a0] rfl (by (try simp only [List.map_toArray, List.map_cons, List.map_nil]); first | done | rfl | (simp only [List.length_drop, List.length_take]; rfl)) ?_; (with_reducible refine (int11_Of.calls kj29 a0 t263 false _ ?side1 A69.out).mono ?_); (case side1 => exact Go.Proofs.YtkijneohhilboaaDoor.PIT.Tabs_below HG.out bl); rintro e w107 ⟨rfl, hb⟩; refine ⟨_, rfl, ?_⟩; have n0_ := Aside0.mk (below_step bl hb); clear HB; have HB := n0_; clear n0_; (try clear hb); (try clear hb2); (try clear hk); (try clear hi)) | ((with_reducible refine gate_callee (f := 13) rfl ?_); refine goesL_ (some 96) rfl rfl Tryd.func13 (by kernel_rfl) rfl #[.string t263] rfl (by (try simp only [List.map_toArray, List.map_cons, List.map_nil]); first | done | rfl | (simp only [List.length_drop, List.length_take]; rfl)) ?_; (with_reducible refine (int11_Of.calls kj29 t263 t265 t266 _ ?side1 A70.out).mono ?_); (case side1 => exact Go.Proofs.YtkijneohhilboaaDoor.PIT.Tabs_below HG.out bl); rintro e w108 ⟨rfl, hb⟩; refine ⟨_, rfl, ?_⟩; have n0_ := Aside0.mk (below_step bl hb); clear HB; have HB := n0_; clear n0_; (try clear hb); (try clear hb2); (try clear hk); (try clear hi)) | ((with_reducible refine gate_callee (f := 17) rfl ?_); refine goesL_ (some 100) rfl rfl Tryd.func17 (by kernel_rfl) rfl #[.int .u8 a1] rfl (by (try simp only [List.map_toArray, List.map_cons, List.map_nil]); first | done | rfl | (simp only [List.length_drop, List.length_take]; rfl)) ?_; (with_reducible refine (targumref4_IsDigit.calls a1 false _ A71.out).mono ?_); rintro e w' ⟨rfl, ⟨nd, rfl⟩⟩; refine ⟨_, rfl, ?_⟩))
                go_ret
                exact ⟨by first | rfl | (simp [errW_none, errW_some] <;> rfl) | (simp [*, errW_none, errW_some] <;> rfl), bl⟩
              ·as_aux_lemma =>
               rw [if_neg c97] at H
               have c97b0 : decide (a1 ≤ 102) = false := decide_eq_false c97
               clear c97
               by_cases c109 : a1 ≥ 65
               ·as_aux_lemma =>
                rw [if_pos c109] at H
                have c109b0 : decide (65 ≤ a1) = true := decide_eq_true c109
                clear c109
                by_cases c110 : a1 ≤ 70
                ·rw [if_pos c110] at H
                 have c110b0 : decide (a1 ≤ 70) = true := decide_eq_true c110
                 clear c110
                 by_cases c111 : t264 = true
                 ·subst c111
                  have H1 : (if t266 = true then (if t265.toList = t263.toList then (some true) else (some false)) else (some false)) = some r := by rw [if_pos rfl] at H; exact H
                  clear H
                  have H := H1
                  clear H1
                  by_cases c112 : t266 = true
                  ·subst c112
                   have H1 : (if t265.toList = t263.toList then (some true) else (some false)) = some r := by rw [if_pos rfl] at H; exact H
                   clear H
                   have H := H1
                   clear H1
                   by_cases c113 : t265.toList = t263.toList
                   ·rw [if_pos c113] at H
                    have c113b0 : (t265.toList == t263.toList) = true := beq_iff_eq.mpr c113
                    have c113b1 : (t265.toList != t263.toList) = false := bne_eq_false_iff_eq.mpr c113
                    clear c113
                    obtain rfl := Option.some.inj H
                    go_wp2_with (first | ((with_reducible refine gate_callee (f := 13) rfl ?_); refine goesL_ (some 91) rfl rfl Tryd.func13 (by kernel_rfl) rfl #[.string a0] rfl (by (try simp only [List.map_toArray, List.map_cons, List.map_nil]); first | done | rfl | (simp only [List.length_drop, List.length_take]; rfl)) ?_; (with_reducible refine (int11_Of.calls kj29 a0 t263 true _ ?side1 A69.out).mono ?_); (case side1 => exact Go.Proofs.YtkijneohhilboaaDoor.PIT.Tabs_below HG.out bl); rintro e w114 ⟨rfl, hb⟩; refine ⟨_, rfl, ?_⟩; have n0_ := Aside0.mk (below_step bl hb); clear HB; have HB := n0_; clear n0_; (try clear hb); (try clear hb2); (try clear hk); (try clear hi)) | ((with_reducible refine gate_callee (f := 13) rfl ?_); refine goesL_ (some 96) rfl rfl Tryd.func13 (by kernel_rfl) rfl #[.string t263] rfl (by (try simp only [List.map_toArray, List.map_cons, List.map_nil]); first | done | rfl | (simp only [List.length_drop, List.length_take]; rfl)) ?_; (with_reducible refine (int11_Of.calls kj29 t263 t265 true _ ?side1 A70.out).mono ?_); (case side1 => exact Go.Proofs.YtkijneohhilboaaDoor.PIT.Tabs_below HG.out bl); rintro e w115 ⟨rfl, hb⟩; refine ⟨_, rfl, ?_⟩; have n0_ := Aside0.mk (below_step bl hb); clear HB; have HB := n0_; clear n0_; (try clear hb); (try clear hb2); (try clear hk); (try clear hi)) | ((with_reducible refine gate_callee (f := 17) rfl ?_); refine goesL_ (some 100) rfl rfl Tryd.func17 (by kernel_rfl) rfl #[.int .u8 a1] rfl (by (try simp only [List.map_toArray, List.map_cons, List.map_nil]); first | done | rfl | (simp only [List.length_drop, List.length_take]; rfl)) ?_; (with_reducible refine (targumref4_IsDigit.calls a1 false _ A71.out).mono ?_); rintro e w' ⟨rfl, ⟨nd, rfl⟩⟩; refine ⟨_, rfl, ?_⟩))
                    go_ret
                    exact ⟨by first | rfl | (simp [errW_none, errW_some] <;> rfl) | (simp [*, errW_none, errW_some] <;> rfl), bl⟩
                   ·rw [if_neg c113] at H
                    have c113b0 : (t265.toList == t263.toList) = false := beq_eq_false_iff_ne.mpr c113
                    have c113b1 : (t265.toList != t263.toList) = true := bne_iff_ne.mpr c113
                    obtain rfl := Option.some.inj H
                    go_wp2_with (first | ((with_reducible refine gate_callee (f := 13) rfl ?_); refine goesL_ (some 91) rfl rfl Tryd.func13 (by kernel_rfl) rfl #[.string a0] rfl (by (try simp only [List.map_toArray, List.map_cons, List.map_nil]); first | done | rfl | (simp only [List.length_drop, List.length_take]; rfl)) ?_; (with_reducible refine (int11_Of.calls kj29 a0 t263 true _ ?side1 A69.out).mono ?_); (case side1 => exact Go.Proofs.YtkijneohhilboaaDoor.PIT.Tabs_below HG.out bl); rintro e w116 ⟨rfl, hb⟩; refine ⟨_, rfl, ?_⟩; have n0_ := Aside0.mk (below_step bl hb); clear HB; have HB := n0_; clear n0_; (try clear hb); (try clear hb2); (try clear hk); (try clear hi)) | ((with_reducible refine gate_callee (f := 13) rfl ?_); refine goesL_ (some 96) rfl rfl Tryd.func13 (by kernel_rfl) rfl #[.string t263] rfl (by (try simp only [List.map_toArray, List.map_cons, List.map_nil]); first | done | rfl | (simp only [List.length_drop, List.length_take]; rfl)) ?_; (with_reducible refine (int11_Of.calls kj29 t263 t265 true _ ?side1 A70.out).mono ?_); (case side1 => exact Go.Proofs.YtkijneohhilboaaDoor.PIT.Tabs_below HG.out bl); rintro e w117 ⟨rfl, hb⟩; refine ⟨_, rfl, ?_⟩; have n0_ := Aside0.mk (below_step bl hb); clear HB; have HB := n0_; clear n0_; (try clear hb); (try clear hb2); (try clear hk); (try clear hi)) | ((with_reducible refine gate_callee (f := 17) rfl ?_); refine goesL_ (some 100) rfl rfl Tryd.func17 (by kernel_rfl) rfl #[.int .u8 a1] rfl (by (try simp only [List.map_toArray, List.map_cons, List.map_nil]); first | done | rfl | (simp only [List.length_drop, List.length_take]; rfl)) ?_; (with_reducible refine (targumref4_IsDigit.calls a1 false _ A71.out).mono ?_); rintro e w' ⟨rfl, ⟨nd, rfl⟩⟩; refine ⟨_, rfl, ?_⟩))
                    go_ret
                    exact ⟨by first | rfl | (simp [errW_none, errW_some] <;> rfl) | (simp [*, errW_none, errW_some] <;> rfl), bl⟩
                  ·replace c112 := Bool.eq_false_iff.mpr c112
                   subst c112
                   have H1 : (some false) = some r := by rw [if_neg (show ¬ (false = true) by decide)] at H; exact H
                   clear H
                   have H := H1
                   clear H1
                   obtain rfl := Option.some.inj H
                   go_wp2_with (first | ((with_reducible refine gate_callee (f := 13) rfl ?_); refine goesL_ (some 91) rfl rfl Tryd.func13 (by kernel_rfl) rfl #[.string a0] rfl (by (try simp only [List.map_toArray, List.map_cons, List.map_nil]); first | done | rfl | (simp only [List.length_drop, List.length_take]; rfl)) ?_; (with_reducible refine (int11_Of.calls kj29 a0 t263 true _ ?side1 A69.out).mono ?_); (case side1 => exact Go.Proofs.YtkijneohhilboaaDoor.PIT.Tabs_below HG.out bl); rintro e w118 ⟨rfl, hb⟩; refine ⟨_, rfl, ?_⟩; have n0_ := Aside0.mk (below_step bl hb); clear HB; have HB := n0_; clear n0_; (try clear hb); (try clear hb2); (try clear hk); (try clear hi)) | ((with_reducible refine gate_callee (f := 13) rfl ?_); refine goesL_ (some 96) rfl rfl Tryd.func13 (by kernel_rfl) rfl #[.string t263] rfl (by (try simp only [List.map_toArray, List.map_cons, List.map_nil]); first | done | rfl | (simp only [List.length_drop, List.length_take]; rfl)) ?_; (with_reducible refine (int11_Of.calls kj29 t263 t265 false _ ?side1 A70.out).mono ?_); (case side1 => exact Go.Proofs.YtkijneohhilboaaDoor.PIT.Tabs_below HG.out bl); rintro e w119 ⟨rfl, hb⟩; refine ⟨_, rfl, ?_⟩; have n0_ := Aside0.mk (below_step bl hb); clear HB; have HB := n0_; clear n0_; (try clear hb); (try clear hb2); (try clear hk); (try clear hi)) | ((with_reducible refine gate_callee (f := 17) rfl ?_); refine goesL_ (some 100) rfl rfl Tryd.func17 (by kernel_rfl) rfl #[.int .u8 a1] rfl (by (try simp only [List.map_toArray, List.map_cons, List.map_nil]); first | done | rfl | (simp only [List.length_drop, List.length_take]; rfl)) ?_; (with_reducible refine (targumref4_IsDigit.calls a1 false _ A71.out).mono ?_); rintro e w' ⟨rfl, ⟨nd, rfl⟩⟩; refine ⟨_, rfl, ?_⟩))
                   go_ret
                   exact ⟨by first | rfl | (simp [errW_none, errW_some] <;> rfl) | (simp [*, errW_none, errW_some] <;> rfl), bl⟩
                 ·replace c111 := Bool.eq_false_iff.mpr c111
                  subst c111
                  have H1 : (some false) = some r := by rw [if_neg (show ¬ (false = true) by decide)] at H; exact H
                  clear H
                  have H := H1
                  clear H1
                  obtain rfl := Option.some.inj H
                  go_wp2_with (first | ((with_reducible refine gate_callee (f := 13) rfl ?_); refine goesL_ (some 91) rfl rfl Tryd.func13 (by kernel_rfl) rfl #[.string a0] rfl (by (try simp only [List.map_toArray, List.map_cons, List.map_nil]); first | done | rfl | (simp only [List.length_drop, List.length_take]; rfl)) ?_; (with_reducible refine (int11_Of.calls kj29 a0 t263 false _ ?side1 A69.out).mono ?_); (case side1 => exact Go.Proofs.YtkijneohhilboaaDoor.PIT.Tabs_below HG.out bl); rintro e w120 ⟨rfl, hb⟩; refine ⟨_, rfl, ?_⟩; have n0_ := Aside0.mk (below_step bl hb); clear HB; have HB := n0_; clear n0_; (try clear hb); (try clear hb2); (try clear hk); (try clear hi)) | ((with_reducible refine gate_callee (f := 13) rfl ?_); refine goesL_ (some 96) rfl rfl Tryd.func13 (by kernel_rfl) rfl #[.string t263] rfl (by (try simp only [List.map_toArray, List.map_cons, List.map_nil]); first | done | rfl | (simp only [List.length_drop, List.length_take]; rfl)) ?_; (with_reducible refine (int11_Of.calls kj29 t263 t265 t266 _ ?side1 A70.out).mono ?_); (case side1 => exact Go.Proofs.YtkijneohhilboaaDoor.PIT.Tabs_below HG.out bl); rintro e w121 ⟨rfl, hb⟩; refine ⟨_, rfl, ?_⟩; have n0_ := Aside0.mk (below_step bl hb); clear HB; have HB := n0_; clear n0_; (try clear hb); (try clear hb2); (try clear hk); (try clear hi)) | ((with_reducible refine gate_callee (f := 17) rfl ?_); refine goesL_ (some 100) rfl rfl Tryd.func17 (by kernel_rfl) rfl #[.int .u8 a1] rfl (by (try simp only [List.map_toArray, List.map_cons, List.map_nil]); first | done | rfl | (simp only [List.length_drop, List.length_take]; rfl)) ?_; (with_reducible refine (targumref4_IsDigit.calls a1 false _ A71.out).mono ?_); rintro e w' ⟨rfl, ⟨nd, rfl⟩⟩; refine ⟨_, rfl, ?_⟩))
                  go_ret
                  exact ⟨by first | rfl | (simp [errW_none, errW_some] <;> rfl) | (simp [*, errW_none, errW_some] <;> rfl), bl⟩
                ·as_aux_lemma =>
                 rw [if_neg c110] at H
                 have c110b0 : decide (a1 ≤ 70) = false := decide_eq_false c110
                 clear c110
                 by_cases c122 : a1 = 58
                 ·rw [if_pos c122] at H
                  have c122b0 : (a1 == 58) = true := beq_iff_eq.mpr c122
                  have c122b1 : (a1 != 58) = false := bne_eq_false_iff_eq.mpr c122
                  clear c122
                  by_cases c123 : t264 = true
                  ·subst c123
                   have H1 : (if t266 = true then (if t265.toList = t263.toList then (some true) else (some false)) else (some false)) = some r := by rw [if_pos rfl] at H; exact H
                   clear H
                   have H := H1
                   clear H1
                   by_cases c124 : t266 = true
                   ·subst c124
                    have H1 : (if t265.toList = t263.toList then (some true) else (some false)) = some r := by rw [if_pos rfl] at H; exact H
                    clear H
                    have H := H1
                    clear H1
                    by_cases c125 : t265.toList = t263.toList
                    ·rw [if_pos c125] at H
                     have c125b0 : (t265.toList == t263.toList) = true := beq_iff_eq.mpr c125
                     have c125b1 : (t265.toList != t263.toList) = false := bne_eq_false_iff_eq.mpr c125
                     clear c125
                     obtain rfl := Option.some.inj H
                     go_wp2_with (first | ((with_reducible refine gate_callee (f := 13) rfl ?_); refine goesL_ (some 91) rfl rfl Tryd.func13 (by kernel_rfl) rfl #[.string a0] rfl (by (try simp only [List.map_toArray, List.map_cons, List.map_nil]); first | done | rfl | (simp only [List.length_drop, List.length_take]; rfl)) ?_; (with_reducible refine (int11_Of.calls kj29 a0 t263 true _ ?side1 A69.out).mono ?_); (case side1 => exact Go.Proofs.YtkijneohhilboaaDoor.PIT.Tabs_below HG.out bl); rintro e w126 ⟨rfl, hb⟩; refine ⟨_, rfl, ?_⟩; have n0_ := Aside0.mk (below_step bl hb); clear HB; have HB := n0_; clear n0_; (try clear hb); (try clear hb2); (try clear hk); (try clear hi)) | ((with_reducible refine gate_callee (f := 13) rfl ?_); refine goesL_ (some 96) rfl rfl Tryd.func13 (by kernel_rfl) rfl #[.string t263] rfl (by (try simp only [List.map_toArray, List.map_cons, List.map_nil]); first | done | rfl | (simp only [List.length_drop, List.length_take]; rfl)) ?_; (with_reducible refine (int11_Of.calls kj29 t263 t265 true _ ?side1 A70.out).mono ?_); (case side1 => exact Go.Proofs.YtkijneohhilboaaDoor.PIT.Tabs_below HG.out bl); rintro e w127 ⟨rfl, hb⟩; refine ⟨_, rfl, ?_⟩; have n0_ := Aside0.mk (below_step bl hb); clear HB; have HB := n0_; clear n0_; (try clear hb); (try clear hb2); (try clear hk); (try clear hi)) | ((with_reducible refine gate_callee (f := 17) rfl ?_); refine goesL_ (some 100) rfl rfl Tryd.func17 (by kernel_rfl) rfl #[.int .u8 a1] rfl (by (try simp only [List.map_toArray, List.map_cons, List.map_nil]); first | done | rfl | (simp only [List.length_drop, List.length_take]; rfl)) ?_; (with_reducible refine (targumref4_IsDigit.calls a1 false _ A71.out).mono ?_); rintro e w' ⟨rfl, ⟨nd, rfl⟩⟩; refine ⟨_, rfl, ?_⟩))
                     go_ret
                     exact ⟨by first | rfl | (simp [errW_none, errW_some] <;> rfl) | (simp [*, errW_none, errW_some] <;> rfl), bl⟩
                    ·rw [if_neg c125] at H
                     have c125b0 : (t265.toList == t263.toList) = false := beq_eq_false_iff_ne.mpr c125
                     have c125b1 : (t265.toList != t263.toList) = true := bne_iff_ne.mpr c125
                     obtain rfl := Option.some.inj H
                     go_wp2_with (first | ((with_reducible refine gate_callee (f := 13) rfl ?_); refine goesL_ (some 91) rfl rfl Tryd.func13 (by kernel_rfl) rfl #[.string a0] rfl (by (try simp only [List.map_toArray, List.map_cons, List.map_nil]); first | done | rfl | (simp only [List.length_drop, List.length_take]; rfl)) ?_; (with_reducible refine (int11_Of.calls kj29 a0 t263 true _ ?side1 A69.out).mono ?_); (case side1 => exact Go.Proofs.YtkijneohhilboaaDoor.PIT.Tabs_below HG.out bl); rintro e w128 ⟨rfl, hb⟩; refine ⟨_, rfl, ?_⟩; have n0_ := Aside0.mk (below_step bl hb); clear HB; have HB := n0_; clear n0_; (try clear hb); (try clear hb2); (try clear hk); (try clear hi)) | ((with_reducible refine gate_callee (f := 13) rfl ?_); refine goesL_ (some 96) rfl rfl Tryd.func13 (by kernel_rfl) rfl #[.string t263] rfl (by (try simp only [List.map_toArray, List.map_cons, List.map_nil]); first | done | rfl | (simp only [List.length_drop, List.length_take]; rfl)) ?_; (with_reducible refine (int11_Of.calls kj29 t263 t265 true _ ?side1 A70.out).mono ?_); (case side1 => exact Go.Proofs.YtkijneohhilboaaDoor.PIT.Tabs_below HG.out bl); rintro e w129 ⟨rfl, hb⟩; refine ⟨_, rfl, ?_⟩; have n0_ := Aside0.mk (below_step bl hb); clear HB; have HB := n0_; clear n0_; (try clear hb); (try clear hb2); (try clear hk); (try clear hi)) | ((with_reducible refine gate_callee (f := 17) rfl ?_); refine goesL_ (some 100) rfl rfl Tryd.func17 (by kernel_rfl) rfl #[.int .u8 a1] rfl (by (try simp only [List.map_toArray, List.map_cons, List.map_nil]); first | done | rfl | (simp only [List.length_drop, List.length_take]; rfl)) ?_; (with_reducible refine (targumref4_IsDigit.calls a1 false _ A71.out).mono ?_); rintro e w' ⟨rfl, ⟨nd, rfl⟩⟩; refine ⟨_, rfl, ?_⟩))
                     go_ret
                     exact ⟨by first | rfl | (simp [errW_none, errW_some] <;> rfl) | (simp [*, errW_none, errW_some] <;> rfl), bl⟩
                   ·replace c124 := Bool.eq_false_iff.mpr c124
                    subst c124
                    have H1 : (some false) = some r := by rw [if_neg (show ¬ (false = true) by decide)] at H; exact H
                    clear H
                    have H := H1
                    clear H1
                    obtain rfl := Option.some.inj H
                    go_wp2_with (first | ((with_reducible refine gate_callee (f := 13) rfl ?_); refine goesL_ (some 91) rfl rfl Tryd.func13 (by kernel_rfl) rfl #[.string a0] rfl (by (try simp only [List.map_toArray, List.map_cons, List.map_nil]); first | done | rfl | (simp only [List.length_drop, List.length_take]; rfl)) ?_; (with_reducible refine (int11_Of.calls kj29 a0 t263 true _ ?side1 A69.out).mono ?_); (case side1 => exact Go.Proofs.YtkijneohhilboaaDoor.PIT.Tabs_below HG.out bl); rintro e w130 ⟨rfl, hb⟩; refine ⟨_, rfl, ?_⟩; have n0_ := Aside0.mk (below_step bl hb); clear HB; have HB := n0_; clear n0_; (try clear hb); (try clear hb2); (try clear hk); (try clear hi)) | ((with_reducible refine gate_callee (f := 13) rfl ?_); refine goesL_ (some 96) rfl rfl Tryd.func13 (by kernel_rfl) rfl #[.string t263] rfl (by (try simp only [List.map_toArray, List.map_cons, List.map_nil]); first | done | rfl | (simp only [List.length_drop, List.length_take]; rfl)) ?_; (with_reducible refine (int11_Of.calls kj29 t263 t265 false _ ?side1 A70.out).mono ?_); (case side1 => exact Go.Proofs.YtkijneohhilboaaDoor.PIT.Tabs_below HG.out bl); rintro e w131 ⟨rfl, hb⟩; refine ⟨_, rfl, ?_⟩; have n0_ := Aside0.mk (below_step bl hb); clear HB; have HB := n0_; clear n0_; (try clear hb); (try clear hb2); (try clear hk); (try clear hi)) | ((with_reducible refine gate_callee (f := 17) rfl ?_); refine goesL_ (some 100) rfl rfl Tryd.func17 (by kernel_rfl) rfl #[.int .u8 a1] rfl (by (try simp only [List.map_toArray, List.map_cons, List.map_nil]); first | done | rfl | (simp only [List.length_drop, List.length_take]; rfl)) ?_; (with_reducible refine (targumref4_IsDigit.calls a1 false _ A71.out).mono ?_); rintro e w' ⟨rfl, ⟨nd, rfl⟩⟩; refine ⟨_, rfl, ?_⟩))
                    go_ret
                    exact ⟨by first | rfl | (simp [errW_none, errW_some] <;> rfl) | (simp [*, errW_none, errW_some] <;> rfl), bl⟩
                  ·replace c123 := Bool.eq_false_iff.mpr c123
                   subst c123
                   have H1 : (some false) = some r := by rw [if_neg (show ¬ (false = true) by decide)] at H; exact H
                   clear H
                   have H := H1
                   clear H1
                   obtain rfl := Option.some.inj H
                   go_wp2_with (first | ((with_reducible refine gate_callee (f := 13) rfl ?_); refine goesL_ (some 91) rfl rfl Tryd.func13 (by kernel_rfl) rfl #[.string a0] rfl (by (try simp only [List.map_toArray, List.map_cons, List.map_nil]); first | done | rfl | (simp only [List.length_drop, List.length_take]; rfl)) ?_; (with_reducible refine (int11_Of.calls kj29 a0 t263 false _ ?side1 A69.out).mono ?_); (case side1 => exact Go.Proofs.YtkijneohhilboaaDoor.PIT.Tabs_below HG.out bl); rintro e w132 ⟨rfl, hb⟩; refine ⟨_, rfl, ?_⟩; have n0_ := Aside0.mk (below_step bl hb); clear HB; have HB := n0_; clear n0_; (try clear hb); (try clear hb2); (try clear hk); (try clear hi)) | ((with_reducible refine gate_callee (f := 13) rfl ?_); refine goesL_ (some 96) rfl rfl Tryd.func13 (by kernel_rfl) rfl #[.string t263] rfl (by (try simp only [List.map_toArray, List.map_cons, List.map_nil]); first | done | rfl | (simp only [List.length_drop, List.length_take]; rfl)) ?_; (with_reducible refine (int11_Of.calls kj29 t263 t265 t266 _ ?side1 A70.out).mono ?_); (case side1 => exact Go.Proofs.YtkijneohhilboaaDoor.PIT.Tabs_below HG.out bl); rintro e w133 ⟨rfl, hb⟩; refine ⟨_, rfl, ?_⟩; have n0_ := Aside0.mk (below_step bl hb); clear HB; have HB := n0_; clear n0_; (try clear hb); (try clear hb2); (try clear hk); (try clear hi)) | ((with_reducible refine gate_callee (f := 17) rfl ?_); refine goesL_ (some 100) rfl rfl Tryd.func17 (by kernel_rfl) rfl #[.int .u8 a1] rfl (by (try simp only [List.map_toArray, List.map_cons, List.map_nil]); first | done | rfl | (simp only [List.length_drop, List.length_take]; rfl)) ?_; (with_reducible refine (targumref4_IsDigit.calls a1 false _ A71.out).mono ?_); rintro e w' ⟨rfl, ⟨nd, rfl⟩⟩; refine ⟨_, rfl, ?_⟩))
                   go_ret
                   exact ⟨by first | rfl | (simp [errW_none, errW_some] <;> rfl) | (simp [*, errW_none, errW_some] <;> rfl), bl⟩
                 ·as_aux_lemma =>
                  rw [if_neg c122] at H
                  have c122b0 : (a1 == 58) = false := beq_eq_false_iff_ne.mpr c122
                  have c122b1 : (a1 != 58) = true := bne_iff_ne.mpr c122
                  by_cases c134 : a1 = 120
                  ·rw [if_pos c134] at H
                   have c134b0 : (a1 == 120) = true := beq_iff_eq.mpr c134
                   have c134b1 : (a1 != 120) = false := bne_eq_false_iff_eq.mpr c134
                   clear c134
                   by_cases c135 : t264 = true
                   ·subst c135
                    have H1 : (if t266 = true then (if t265.toList = t263.toList then (some true) else (some false)) else (some false)) = some r := by rw [if_pos rfl] at H; exact H
                    clear H
                    have H := H1
                    clear H1
                    by_cases c136 : t266 = true
                    ·subst c136
                     have H1 : (if t265.toList = t263.toList then (some true) else (some false)) = some r := by rw [if_pos rfl] at H; exact H
                     clear H
                     have H := H1
                     clear H1
                     by_cases c137 : t265.toList = t263.toList
                     ·rw [if_pos c137] at H
                      have c137b0 : (t265.toList == t263.toList) = true := beq_iff_eq.mpr c137
                      have c137b1 : (t265.toList != t263.toList) = false := bne_eq_false_iff_eq.mpr c137
                      clear c137
                      obtain rfl := Option.some.inj H
                      go_wp2_with (first | ((with_reducible refine gate_callee (f := 13) rfl ?_); refine goesL_ (some 91) rfl rfl Tryd.func13 (by kernel_rfl) rfl #[.string a0] rfl (by (try simp only [List.map_toArray, List.map_cons, List.map_nil]); first | done | rfl | (simp only [List.length_drop, List.length_take]; rfl)) ?_; (with_reducible refine (int11_Of.calls kj29 a0 t263 true _ ?side1 A69.out).mono ?_); (case side1 => exact Go.Proofs.YtkijneohhilboaaDoor.PIT.Tabs_below HG.out bl); rintro e w138 ⟨rfl, hb⟩; refine ⟨_, rfl, ?_⟩; have n0_ := Aside0.mk (below_step bl hb); clear HB; have HB := n0_; clear n0_; (try clear hb); (try clear hb2); (try clear hk); (try clear hi)) | ((with_reducible refine gate_callee (f := 13) rfl ?_); refine goesL_ (some 96) rfl rfl Tryd.func13 (by kernel_rfl) rfl #[.string t263] rfl (by (try simp only [List.map_toArray, List.map_cons, List.map_nil]); first | done | rfl | (simp only [List.length_drop, List.length_take]; rfl)) ?_; (with_reducible refine (int11_Of.calls kj29 t263 t265 true _ ?side1 A70.out).mono ?_); (case side1 => exact Go.Proofs.YtkijneohhilboaaDoor.PIT.Tabs_below HG.out bl); rintro e w139 ⟨rfl, hb⟩; refine ⟨_, rfl, ?_⟩; have n0_ := Aside0.mk (below_step bl hb); clear HB; have HB := n0_; clear n0_; (try clear hb); (try clear hb2); (try clear hk); (try clear hi)) | ((with_reducible refine gate_callee (f := 17) rfl ?_); refine goesL_ (some 100) rfl rfl Tryd.func17 (by kernel_rfl) rfl #[.int .u8 a1] rfl (by (try simp only [List.map_toArray, List.map_cons, List.map_nil]); first | done | rfl | (simp only [List.length_drop, List.length_take]; rfl)) ?_; (with_reducible refine (targumref4_IsDigit.calls a1 false _ A71.out).mono ?_); rintro e w' ⟨rfl, ⟨nd, rfl⟩⟩; refine ⟨_, rfl, ?_⟩))
                      go_ret
                      exact ⟨by first | rfl | (simp [errW_none, errW_some] <;> rfl) | (simp [*, errW_none, errW_some] <;> rfl), bl⟩
                     ·rw [if_neg c137] at H
                      have c137b0 : (t265.toList == t263.toList) = false := beq_eq_false_iff_ne.mpr c137
                      have c137b1 : (t265.toList != t263.toList) = true := bne_iff_ne.mpr c137
                      obtain rfl := Option.some.inj H
                      go_wp2_with (first | ((with_reducible refine gate_callee (f := 13) rfl ?_); refine goesL_ (some 91) rfl rfl Tryd.func13 (by kernel_rfl) rfl #[.string a0] rfl (by (try simp only [List.map_toArray, List.map_cons, List.map_nil]); first | done | rfl | (simp only [List.length_drop, List.length_take]; rfl)) ?_; (with_reducible refine (int11_Of.calls kj29 a0 t263 true _ ?side1 A69.out).mono ?_); (case side1 => exact Go.Proofs.YtkijneohhilboaaDoor.PIT.Tabs_below HG.out bl); rintro e w140 ⟨rfl, hb⟩; refine ⟨_, rfl, ?_⟩; have n0_ := Aside0.mk (below_step bl hb); clear HB; have HB := n0_; clear n0_; (try clear hb); (try clear hb2); (try clear hk); (try clear hi)) | ((with_reducible refine gate_callee (f := 13) rfl ?_); refine goesL_ (some 96) rfl rfl Tryd.func13 (by kernel_rfl) rfl #[.string t263] rfl (by (try simp only [List.map_toArray, List.map_cons, List.map_nil]); first | done | rfl | (simp only [List.length_drop, List.length_take]; rfl)) ?_; (with_reducible refine (int11_Of.calls kj29 t263 t265 true _ ?side1 A70.out).mono ?_); (case side1 => exact Go.Proofs.YtkijneohhilboaaDoor.PIT.Tabs_below HG.out bl); rintro e w141 ⟨rfl, hb⟩; refine ⟨_, rfl, ?_⟩; have n0_ := Aside0.mk (below_step bl hb); clear HB; have HB := n0_; clear n0_; (try clear hb); (try clear hb2); (try clear hk); (try clear hi)) | ((with_reducible refine gate_callee (f := 17) rfl ?_); refine goesL_ (some 100) rfl rfl Tryd.func17 (by kernel_rfl) rfl #[.int .u8 a1] rfl (by (try simp only [List.map_toArray, List.map_cons, List.map_nil]); first | done | rfl | (simp only [List.length_drop, List.length_take]; rfl)) ?_; (with_reducible refine (targumref4_IsDigit.calls a1 false _ A71.out).mono ?_); rintro e w' ⟨rfl, ⟨nd, rfl⟩⟩; refine ⟨_, rfl, ?_⟩))
                      go_ret
                      exact ⟨by first | rfl | (simp [errW_none, errW_some] <;> rfl) | (simp [*, errW_none, errW_some] <;> rfl), bl⟩
                    ·replace c136 := Bool.eq_false_iff.mpr c136
                     subst c136
                     have H1 : (some false) = some r := by rw [if_neg (show ¬ (false = true) by decide)] at H; exact H
                     clear H
                     have H := H1
                     clear H1
                     obtain rfl := Option.some.inj H
                     go_wp2_with (first | ((with_reducible refine gate_callee (f := 13) rfl ?_); refine goesL_ (some 91) rfl rfl Tryd.func13 (by kernel_rfl) rfl #[.string a0] rfl (by (try simp only [List.map_toArray, List.map_cons, List.map_nil]); first | done | rfl | (simp only [List.length_drop, List.length_take]; rfl)) ?_; (with_reducible refine (int11_Of.calls kj29 a0 t263 true _ ?side1 A69.out).mono ?_); (case side1 => exact Go.Proofs.YtkijneohhilboaaDoor.PIT.Tabs_below HG.out bl); rintro e w142 ⟨rfl, hb⟩; refine ⟨_, rfl, ?_⟩; have n0_ := Aside0.mk (below_step bl hb); clear HB; have HB := n0_; clear n0_; (try clear hb); (try clear hb2); (try clear hk); (try clear hi)) | ((with_reducible refine gate_callee (f := 13) rfl ?_); refine goesL_ (some 96) rfl rfl Tryd.func13 (by kernel_rfl) rfl #[.string t263] rfl (by (try simp only [List.map_toArray, List.map_cons, List.map_nil]); first | done | rfl | (simp only [List.length_drop, List.length_take]; rfl)) ?_; (with_reducible refine (int11_Of.calls kj29 t263 t265 false _ ?side1 A70.out).mono ?_); (case side1 => exact Go.Proofs.YtkijneohhilboaaDoor.PIT.Tabs_below HG.out bl); rintro e w143 ⟨rfl, hb⟩; refine ⟨_, rfl, ?_⟩; have n0_ := Aside0.mk (below_step bl hb); clear HB; have HB := n0_; clear n0_; (try clear hb); (try clear hb2); (try clear hk); (try clear hi)) | ((with_reducible refine gate_callee (f := 17) rfl ?_); refine goesL_ (some 100) rfl rfl Tryd.func17 (by kernel_rfl) rfl #[.int .u8 a1] rfl (by (try simp only [List.map_toArray, List.map_cons, List.map_nil]); first | done | rfl | (simp only [List.length_drop, List.length_take]; rfl)) ?_; (with_reducible refine (targumref4_IsDigit.calls a1 false _ A71.out).mono ?_); rintro e w' ⟨rfl, ⟨nd, rfl⟩⟩; refine ⟨_, rfl, ?_⟩))
                     go_ret
                     exact ⟨by first | rfl | (simp [errW_none, errW_some] <;> rfl) | (simp [*, errW_none, errW_some] <;> rfl), bl⟩
                   ·replace c135 := Bool.eq_false_iff.mpr c135
                    subst c135
                    have H1 : (some false) = some r := by rw [if_neg (show ¬ (false = true) by decide)] at H; exact H
                    clear H
                    have H := H1
                    clear H1
                    obtain rfl := Option.some.inj H
                    go_wp2_with (first | ((with_reducible refine gate_callee (f := 13) rfl ?_); refine goesL_ (some 91) rfl rfl Tryd.func13 (by kernel_rfl) rfl #[.string a0] rfl (by (try simp only [List.map_toArray, List.map_cons, List.map_nil]); first | done | rfl | (simp only [List.length_drop, List.length_take]; rfl)) ?_; (with_reducible refine (int11_Of.calls kj29 a0 t263 false _ ?side1 A69.out).mono ?_); (case side1 => exact Go.Proofs.YtkijneohhilboaaDoor.PIT.Tabs_below HG.out bl); rintro e w144 ⟨rfl, hb⟩; refine ⟨_, rfl, ?_⟩; have n0_ := Aside0.mk (below_step bl hb); clear HB; have HB := n0_; clear n0_; (try clear hb); (try clear hb2); (try clear hk); (try clear hi)) | ((with_reducible refine gate_callee (f := 13) rfl ?_); refine goesL_ (some 96) rfl rfl Tryd.func13 (by kernel_rfl) rfl #[.string t263] rfl (by (try simp only [List.map_toArray, List.map_cons, List.map_nil]); first | done | rfl | (simp only [List.length_drop, List.length_take]; rfl)) ?_; (with_reducible refine (int11_Of.calls kj29 t263 t265 t266 _ ?side1 A70.out).mono ?_); (case side1 => exact Go.Proofs.YtkijneohhilboaaDoor.PIT.Tabs_below HG.out bl); rintro e w145 ⟨rfl, hb⟩; refine ⟨_, rfl, ?_⟩; have n0_ := Aside0.mk (below_step bl hb); clear HB; have HB := n0_; clear n0_; (try clear hb); (try clear hb2); (try clear hk); (try clear hi)) | ((with_reducible refine gate_callee (f := 17) rfl ?_); refine goesL_ (some 100) rfl rfl Tryd.func17 (by kernel_rfl) rfl #[.int .u8 a1] rfl (by (try simp only [List.map_toArray, List.map_cons, List.map_nil]); first | done | rfl | (simp only [List.length_drop, List.length_take]; rfl)) ?_; (with_reducible refine (targumref4_IsDigit.calls a1 false _ A71.out).mono ?_); rintro e w' ⟨rfl, ⟨nd, rfl⟩⟩; refine ⟨_, rfl, ?_⟩))
                    go_ret
                    exact ⟨by first | rfl | (simp [errW_none, errW_some] <;> rfl) | (simp [*, errW_none, errW_some] <;> rfl), bl⟩
                  ·as_aux_lemma =>
                   rw [if_neg c134] at H
                   have c134b0 : (a1 == 120) = false := beq_eq_false_iff_ne.mpr c134
                   have c134b1 : (a1 != 120) = true := bne_iff_ne.mpr c134
                   by_cases c146 : t264 = true
                   ·as_aux_lemma =>
                    subst c146
                    have H1 : (if t266 = true then (if t265.toList = t263.toList then (if a1 = 111 then (some true) else ((some (([a1] : List Int) : List Int)).bind fun y268 => (if a0.size + (strOfNums y268).size ≤ 9223372036854775807 then ((int11_Is.f (a0 ++ (strOfNums y268))).bind fun t271 => (some (!t271))) else (none)))) else (some false)) else (some false)) = some r := by rw [if_pos rfl] at H; exact H
                    clear H
                    have H := H1
                    clear H1
                    by_cases c147 : t266 = true
                    ·subst c147
                     have H1 : (if t265.toList = t263.toList then (if a1 = 111 then (some true) else ((some (([a1] : List Int) : List Int)).bind fun y268 => (if a0.size + (strOfNums y268).size ≤ 9223372036854775807 then ((int11_Is.f (a0 ++ (strOfNums y268))).bind fun t271 => (some (!t271))) else (none)))) else (some false)) = some r := by rw [if_pos rfl] at H; exact H
                     clear H
                     have H := H1
                     clear H1
                     by_cases c148 : t265.toList = t263.toList
                     ·rw [if_pos c148] at H
                      have c148b0 : (t265.toList == t263.toList) = true := beq_iff_eq.mpr c148
                      have c148b1 : (t265.toList != t263.toList) = false := bne_eq_false_iff_eq.mpr c148
                      clear c148
                      by_cases c149 : a1 = 111
                      ·rw [if_pos c149] at H
                       have c149b0 : (a1 == 111) = true := beq_iff_eq.mpr c149
                       have c149b1 : (a1 != 111) = false := bne_eq_false_iff_eq.mpr c149
                       clear c149
                       obtain rfl := Option.some.inj H
                       go_wp2_with (first | ((with_reducible refine gate_callee (f := 13) rfl ?_); refine goesL_ (some 91) rfl rfl Tryd.func13 (by kernel_rfl) rfl #[.string a0] rfl (by (try simp only [List.map_toArray, List.map_cons, List.map_nil]); first | done | rfl | (simp only [List.length_drop, List.length_take]; rfl)) ?_; (with_reducible refine (int11_Of.calls kj29 a0 t263 true _ ?side1 A69.out).mono ?_); (case side1 => exact Go.Proofs.YtkijneohhilboaaDoor.PIT.Tabs_below HG.out bl); rintro e w150 ⟨rfl, hb⟩; refine ⟨_, rfl, ?_⟩; have n0_ := Aside0.mk (below_step bl hb); clear HB; have HB := n0_; clear n0_; (try clear hb); (try clear hb2); (try clear hk); (try clear hi)) | ((with_reducible refine gate_callee (f := 13) rfl ?_); refine goesL_ (some 96) rfl rfl Tryd.func13 (by kernel_rfl) rfl #[.string t263] rfl (by (try simp only [List.map_toArray, List.map_cons, List.map_nil]); first | done | rfl | (simp only [List.length_drop, List.length_take]; rfl)) ?_; (with_reducible refine (int11_Of.calls kj29 t263 t265 true _ ?side1 A70.out).mono ?_); (case side1 => exact Go.Proofs.YtkijneohhilboaaDoor.PIT.Tabs_below HG.out bl); rintro e w151 ⟨rfl, hb⟩; refine ⟨_, rfl, ?_⟩; have n0_ := Aside0.mk (below_step bl hb); clear HB; have HB := n0_; clear n0_; (try clear hb); (try clear hb2); (try clear hk); (try clear hi)) | ((with_reducible refine gate_callee (f := 17) rfl ?_); refine goesL_ (some 100) rfl rfl Tryd.func17 (by kernel_rfl) rfl #[.int .u8 a1] rfl (by (try simp only [List.map_toArray, List.map_cons, List.map_nil]); first | done | rfl | (simp only [List.length_drop, List.length_take]; rfl)) ?_; (with_reducible refine (targumref4_IsDigit.calls a1 false _ A71.out).mono ?_); rintro e w' ⟨rfl, ⟨nd, rfl⟩⟩; refine ⟨_, rfl, ?_⟩))
                       go_ret
                       exact ⟨by first | rfl | (simp [errW_none, errW_some] <;> rfl) | (simp [*, errW_none, errW_some] <;> rfl), bl⟩
                      ·rw [if_neg c149] at H
                       have c149b0 : (a1 == 111) = false := beq_eq_false_iff_ne.mpr c149
                       have c149b1 : (a1 != 111) = true := bne_iff_ne.mpr c149
                       obtain ⟨y268, hy268⟩ : ∃ y_ : List Int, y_ = (([a1] : List Int)) := ⟨_, rfl⟩
                       replace H : (if a0.size + (strOfNums y268).size ≤ 9223372036854775807 then ((int11_Is.f (a0 ++ (strOfNums y268))).bind fun t271 => (some (!t271))) else (none)) = some r := by first | (rw [hy268]; with_reducible exact H) | (have H2_ := (Option.bind_some _ _).symm.trans H; rw [hy268]; with_reducible exact H2_) | (have H2_ := (Option.bind_some _ _).symm.trans H; with_reducible exact H2_) | with_reducible exact H | (rw [hy268]; exact H) | exact H
                       have Ny268 := Aside0.mk hy268
                       clear hy268
                       by_cases c152 : a0.size + (strOfNums y268).size ≤ 9223372036854775807
                       ·rw [if_pos c152] at H
                        have c152b0 := eq_true c152
                        have c152b1 : decide (a0.size + (strOfNums y268).size ≤ 9223372036854775807) = true := decide_eq_true c152
                        try have c152b2 : (9223372036854775807 < a0.size + (strOfNums y268).size) = False := eq_false (Nat.not_lt.2 c152)
                        replace H := Option.bind_eq_some_iff.mp H
                        obtain ⟨t271, A1530, H⟩ := H
                        replace H : (some (!t271)) = some r := H
                        have A153 := Aside0.mk A1530
                        clear A1530
                        obtain rfl := Option.some.inj H
                        go_wp2_with (first | ((with_reducible refine gate_callee (f := 13) rfl ?_); refine goesL_ (some 91) rfl rfl Tryd.func13 (by kernel_rfl) rfl #[.string a0] rfl (by (try simp only [List.map_toArray, List.map_cons, List.map_nil]); first | done | rfl | (simp only [List.length_drop, List.length_take]; rfl)) ?_; (with_reducible refine (int11_Of.calls kj29 a0 t263 true _ ?side1 A69.out).mono ?_); (case side1 => exact Go.Proofs.YtkijneohhilboaaDoor.PIT.Tabs_below HG.out bl); rintro e w154 ⟨rfl, hb⟩; refine ⟨_, rfl, ?_⟩; have n0_ := Aside0.mk (below_step bl hb); clear HB; have HB := n0_; clear n0_; (try clear hb); (try clear hb2); (try clear hk); (try clear hi)) | ((with_reducible refine gate_callee (f := 13) rfl ?_); refine goesL_ (some 96) rfl rfl Tryd.func13 (by kernel_rfl) rfl #[.string t263] rfl (by (try simp only [List.map_toArray, List.map_cons, List.map_nil]); first | done | rfl | (simp only [List.length_drop, List.length_take]; rfl)) ?_; (with_reducible refine (int11_Of.calls kj29 t263 t265 true _ ?side1 A70.out).mono ?_); (case side1 => exact Go.Proofs.YtkijneohhilboaaDoor.PIT.Tabs_below HG.out bl); rintro e w155 ⟨rfl, hb⟩; refine ⟨_, rfl, ?_⟩; have n0_ := Aside0.mk (below_step bl hb); clear HB; have HB := n0_; clear n0_; (try clear hb); (try clear hb2); (try clear hk); (try clear hi)) | ((with_reducible refine gate_callee (f := 17) rfl ?_); refine goesL_ (some 100) rfl rfl Tryd.func17 (by kernel_rfl) rfl #[.int .u8 a1] rfl (by (try simp only [List.map_toArray, List.map_cons, List.map_nil]); first | done | rfl | (simp only [List.length_drop, List.length_take]; rfl)) ?_; (with_reducible refine (targumref4_IsDigit.calls a1 false _ A71.out).mono ?_); rintro e w' ⟨rfl, ⟨nd, rfl⟩⟩; refine ⟨_, rfl, ?_⟩) | ((with_reducible refine gate_dst (N := 147) rfl ?_); (try (refine gate_guard (by rfl) ?_; dsimp only)); refine Kd.R_lit (Kd.int .u8) _ 5 ?hg (N := 147) ?hd (xs := ([a1] : List Int)) (inner := [.int .u8 a1]) (ok := fun _ => True) (okp := fun _ => True) ?hr ?hp (fun _ hk => hk) trivial (Below.refl _ _) (Nat.le_refl _) (by simp) ?_; (case hd => rfl); (case hg => rfl); (case hr => first | (go_simp; done) | (go_simp; rfl)); (case hp => exact (Reps.one (show Kd.M (Kd.int .u8) _ _ _ a1 [.int .u8 a1] from rfl) (Reps.none _ _))); intro v269 w156 ho157 hb hg_ hnew_; clear hg_ hnew_; (first | rw [← Ny268.out] at ho157 | (simp only [Int.reduceToNat] at ho157; rw [← Ny268.out] at ho157)); have n0_ := Aside0.mk (Kd.R_lower ho157 (below_size bl)); have n1_ := Aside0.mk (below_step bl hb); clear HB; have HO270 := n0_; have HB := n1_; clear n0_ n1_; clear hb ho157; have hcv158 := own_string (P := Tryd.prog) Tryd.underlying33 Tryd.underlying5 Tryd.underlying9 (Kd.own_of_R HO270.out)) | (go_at_call 16; (try (rename_i hK_; simp only [List.append] at hK_)); (with_reducible refine (int11_Is.calls (a0 ++ (strOfNums y268)) t271 _ A153.out).mono ?_); rintro e w159 ⟨rfl, hb⟩; have n0_ := Aside0.mk (Kd.R_below (by (with_reducible repeat (first | apply Kd.R_alloc | apply Kd.R_drewN | apply Kd.R_drew)); exact HO270.out) hb); have n1_ := Aside0.mk (below_step bl hb); clear HO270; clear HB; have HO270 := n0_; have HB := n1_; clear n0_ n1_; (try clear hb); (try clear hb2); (try clear hk); (try clear hi)))
                        go_ret
                        exact ⟨by first | rfl | (simp [errW_none, errW_some] <;> rfl) | (simp [*, errW_none, errW_some] <;> rfl), bl⟩
                       ·rw [if_neg c152] at H
                        exact absurd H (by simp)
                     ·rw [if_neg c148] at H
                      have c148b0 : (t265.toList == t263.toList) = false := beq_eq_false_iff_ne.mpr c148
                      have c148b1 : (t265.toList != t263.toList) = true := bne_iff_ne.mpr c148
                      obtain rfl := Option.some.inj H
                      go_wp2_with (first | ((with_reducible refine gate_callee (f := 13) rfl ?_); refine goesL_ (some 91) rfl rfl Tryd.func13 (by kernel_rfl) rfl #[.string a0] rfl (by (try simp only [List.map_toArray, List.map_cons, List.map_nil]); first | done | rfl | (simp only [List.length_drop, List.length_take]; rfl)) ?_; (with_reducible refine (int11_Of.calls kj29 a0 t263 true _ ?side1 A69.out).mono ?_); (case side1 => exact Go.Proofs.YtkijneohhilboaaDoor.PIT.Tabs_below HG.out bl); rintro e w160 ⟨rfl, hb⟩; refine ⟨_, rfl, ?_⟩; have n0_ := Aside0.mk (below_step bl hb); clear HB; have HB := n0_; clear n0_; (try clear hb); (try clear hb2); (try clear hk); (try clear hi)) | ((with_reducible refine gate_callee (f := 13) rfl ?_); refine goesL_ (some 96) rfl rfl Tryd.func13 (by kernel_rfl) rfl #[.string t263] rfl (by (try simp only [List.map_toArray, List.map_cons, List.map_nil]); first | done | rfl | (simp only [List.length_drop, List.length_take]; rfl)) ?_; (with_reducible refine (int11_Of.calls kj29 t263 t265 true _ ?side1 A70.out).mono ?_); (case side1 => exact Go.Proofs.YtkijneohhilboaaDoor.PIT.Tabs_below HG.out bl); rintro e w161 ⟨rfl, hb⟩; refine ⟨_, rfl, ?_⟩; have n0_ := Aside0.mk (below_step bl hb); clear HB; have HB := n0_; clear n0_; (try clear hb); (try clear hb2); (try clear hk); (try clear hi)) | ((with_reducible refine gate_callee (f := 17) rfl ?_); refine goesL_ (some 100) rfl rfl Tryd.func17 (by kernel_rfl) rfl #[.int .u8 a1] rfl (by (try simp only [List.map_toArray, List.map_cons, List.map_nil]); first | done | rfl | (simp only [List.length_drop, List.length_take]; rfl)) ?_; (with_reducible refine (targumref4_IsDigit.calls a1 false _ A71.out).mono ?_); rintro e w' ⟨rfl, ⟨nd, rfl⟩⟩; refine ⟨_, rfl, ?_⟩))
                      go_ret
                      exact ⟨by first | rfl | (simp [errW_none, errW_some] <;> rfl) | (simp [*, errW_none, errW_some] <;> rfl), bl⟩
                    ·replace c147 := Bool.eq_false_iff.mpr c147
                     subst c147
                     have H1 : (some false) = some r := by rw [if_neg (show ¬ (false = true) by decide)] at H; exact H
                     clear H
                     have H := H1
                     clear H1
                     obtain rfl := Option.some.inj H
                     go_wp2_with (first | ((with_reducible refine gate_callee (f := 13) rfl ?_); refine goesL_ (some 91) rfl rfl Tryd.func13 (by kernel_rfl) rfl #[.string a0] rfl (by (try simp only [List.map_toArray, List.map_cons, List.map_nil]); first | done | rfl | (simp only [List.length_drop, List.length_take]; rfl)) ?_; (with_reducible refine (int11_Of.calls kj29 a0 t263 true _ ?side1 A69.out).mono ?_); (case side1 => exact Go.Proofs.YtkijneohhilboaaDoor.PIT.Tabs_below HG.out bl); rintro e w162 ⟨rfl, hb⟩; refine ⟨_, rfl, ?_⟩; have n0_ := Aside0.mk (below_step bl hb); clear HB; have HB := n0_; clear n0_; (try clear hb); (try clear hb2); (try clear hk); (try clear hi)) | ((with_reducible refine gate_callee (f := 13) rfl ?_); refine goesL_ (some 96) rfl rfl Tryd.func13 (by kernel_rfl) rfl #[.string t263] rfl (by (try simp only [List.map_toArray, List.map_cons, List.map_nil]); first | done | rfl | (simp only [List.length_drop, List.length_take]; rfl)) ?_; (with_reducible refine (int11_Of.calls kj29 t263 t265 false _ ?side1 A70.out).mono ?_); (case side1 => exact Go.Proofs.YtkijneohhilboaaDoor.PIT.Tabs_below HG.out bl); rintro e w163 ⟨rfl, hb⟩; refine ⟨_, rfl, ?_⟩; have n0_ := Aside0.mk (below_step bl hb); clear HB; have HB := n0_; clear n0_; (try clear hb); (try clear hb2); (try clear hk); (try clear hi)) | ((with_reducible refine gate_callee (f := 17) rfl ?_); refine goesL_ (some 100) rfl rfl Tryd.func17 (by kernel_rfl) rfl #[.int .u8 a1] rfl (by (try simp only [List.map_toArray, List.map_cons, List.map_nil]); first | done | rfl | (simp only [List.length_drop, List.length_take]; rfl)) ?_; (with_reducible refine (targumref4_IsDigit.calls a1 false _ A71.out).mono ?_); rintro e w' ⟨rfl, ⟨nd, rfl⟩⟩; refine ⟨_, rfl, ?_⟩))
                     go_ret
                     exact ⟨by first | rfl | (simp [errW_none, errW_some] <;> rfl) | (simp [*, errW_none, errW_some] <;> rfl), bl⟩
                   ·replace c146 := Bool.eq_false_iff.mpr c146
                    subst c146
                    have H1 : (some false) = some r := by rw [if_neg (show ¬ (false = true) by decide)] at H; exact H
                    clear H
                    have H := H1
                    clear H1
                    obtain rfl := Option.some.inj H
                    go_wp2_with (first | ((with_reducible refine gate_callee (f := 13) rfl ?_); refine goesL_ (some 91) rfl rfl Tryd.func13 (by kernel_rfl) rfl #[.string a0] rfl (by (try simp only [List.map_toArray, List.map_cons, List.map_nil]); first | done | rfl | (simp only [List.length_drop, List.length_take]; rfl)) ?_; (with_reducible refine (int11_Of.calls kj29 a0 t263 false _ ?side1 A69.out).mono ?_); (case side1 => exact Go.Proofs.YtkijneohhilboaaDoor.PIT.Tabs_below HG.out bl); rintro e w164 ⟨rfl, hb⟩; refine ⟨_, rfl, ?_⟩; have n0_ := Aside0.mk (below_step bl hb); clear HB; have HB := n0_; clear n0_; (try clear hb); (try clear hb2); (try clear hk); (try clear hi)) | ((with_reducible refine gate_callee (f := 13) rfl ?_); refine goesL_ (some 96) rfl rfl Tryd.func13 (by kernel_rfl) rfl #[.string t263] rfl (by (try simp only [List.map_toArray, List.map_cons, List.map_nil]); first | done | rfl | (simp only [List.length_drop, List.length_take]; rfl)) ?_; (with_reducible refine (int11_Of.calls kj29 t263 t265 t266 _ ?side1 A70.out).mono ?_); (case side1 => exact Go.Proofs.YtkijneohhilboaaDoor.PIT.Tabs_below HG.out bl); rintro e w165 ⟨rfl, hb⟩; refine ⟨_, rfl, ?_⟩; have n0_ := Aside0.mk (below_step bl hb); clear HB; have HB := n0_; clear n0_; (try clear hb); (try clear hb2); (try clear hk); (try clear hi)) | ((with_reducible refine gate_callee (f := 17) rfl ?_); refine goesL_ (some 100) rfl rfl Tryd.func17 (by kernel_rfl) rfl #[.int .u8 a1] rfl (by (try simp only [List.map_toArray, List.map_cons, List.map_nil]); first | done | rfl | (simp only [List.length_drop, List.length_take]; rfl)) ?_; (with_reducible refine (targumref4_IsDigit.calls a1 false _ A71.out).mono ?_); rintro e w' ⟨rfl, ⟨nd, rfl⟩⟩; refine ⟨_, rfl, ?_⟩))
                    go_ret
                    exact ⟨by first | rfl | (simp [errW_none, errW_some] <;> rfl) | (simp [*, errW_none, errW_some] <;> rfl), bl⟩
               ·as_aux_lemma =>
                rw [if_neg c109] at H
                have c109b0 : decide (65 ≤ a1) = false := decide_eq_false c109
                clear c109
                by_cases c166 : a1 = 58
                ·rw [if_pos c166] at H
                 have c166b0 : (a1 == 58) = true := beq_iff_eq.mpr c166
                 have c166b1 : (a1 != 58) = false := bne_eq_false_iff_eq.mpr c166
                 clear c166
                 by_cases c167 : t264 = true
                 ·subst c167
                  have H1 : (if t266 = true then (if t265.toList = t263.toList then (some true) else (some false)) else (some false)) = some r := by rw [if_pos rfl] at H; exact H
                  clear H
                  have H := H1
                  clear H1
                  by_cases c168 : t266 = true
                  ·subst c168
                   have H1 : (if t265.toList = t263.toList then (some true) else (some false)) = some r := by rw [if_pos rfl] at H; exact H
                   clear H
                   have H := H1
                   clear H1
                   by_cases c169 : t265.toList = t263.toList
                   ·rw [if_pos c169] at H
                    have c169b0 : (t265.toList == t263.toList) = true := beq_iff_eq.mpr c169
                    have c169b1 : (t265.toList != t263.toList) = false := bne_eq_false_iff_eq.mpr c169
                    clear c169
                    obtain rfl := Option.some.inj H
                    go_wp2_with (first | ((with_reducible refine gate_callee (f := 13) rfl ?_); refine goesL_ (some 91) rfl rfl Tryd.func13 (by kernel_rfl) rfl #[.string a0] rfl (by (try simp only [List.map_toArray, List.map_cons, List.map_nil]); first | done | rfl | (simp only [List.length_drop, List.length_take]; rfl)) ?_; (with_reducible refine (int11_Of.calls kj29 a0 t263 true _ ?side1 A69.out).mono ?_); (case side1 => exact Go.Proofs.YtkijneohhilboaaDoor.PIT.Tabs_below HG.out bl); rintro e w170 ⟨rfl, hb⟩; refine ⟨_, rfl, ?_⟩; have n0_ := Aside0.mk (below_step bl hb); clear HB; have HB := n0_; clear n0_; (try clear hb); (try clear hb2); (try clear hk); (try clear hi)) | ((with_reducible refine gate_callee (f := 13) rfl ?_); refine goesL_ (some 96) rfl rfl Tryd.func13 (by kernel_rfl) rfl #[.string t263] rfl (by (try simp only [List.map_toArray, List.map_cons, List.map_nil]); first | done | rfl | (simp only [List.length_drop, List.length_take]; rfl)) ?_; (with_reducible refine (int11_Of.calls kj29 t263 t265 true _ ?side1 A70.out).mono ?_); (case side1 => exact Go.Proofs.YtkijneohhilboaaDoor.PIT.Tabs_below HG.out bl); rintro e w171 ⟨rfl, hb⟩; refine ⟨_, rfl, ?_⟩; have n0_ := Aside0.mk (below_step bl hb); clear HB; have HB := n0_; clear n0_; (try clear hb); (try clear hb2); (try clear hk); (try clear hi)) | ((with_reducible refine gate_callee (f := 17) rfl ?_); refine goesL_ (some 100) rfl rfl Tryd.func17 (by kernel_rfl) rfl #[.int .u8 a1] rfl (by (try simp only [List.map_toArray, List.map_cons, List.map_nil]); first | done | rfl | (simp only [List.length_drop, List.length_take]; rfl)) ?_; (with_reducible refine (targumref4_IsDigit.calls a1 false _ A71.out).mono ?_); rintro e w' ⟨rfl, ⟨nd, rfl⟩⟩; refine ⟨_, rfl, ?_⟩))
                    go_ret
                    exact ⟨by first | rfl | (simp [errW_none, errW_some] <;> rfl) | (simp [*, errW_none, errW_some] <;> rfl), bl⟩
                   ·rw [if_neg c169] at H
                    have c169b0 : (t265.toList == t263.toList) = false := beq_eq_false_iff_ne.mpr c169
                    have c169b1 : (t265.toList != t263.toList) = true := bne_iff_ne.mpr c169
                    obtain rfl := Option.some.inj H
                    go_wp2_with (first | ((with_reducible refine gate_callee (f := 13) rfl ?_); refine goesL_ (some 91) rfl rfl Tryd.func13 (by kernel_rfl) rfl #[.string a0] rfl (by (try simp only [List.map_toArray, List.map_cons, List.map_nil]); first | done | rfl | (simp only [List.length_drop, List.length_take]; rfl)) ?_; (with_reducible refine (int11_Of.calls kj29 a0 t263 true _ ?side1 A69.out).mono ?_); (case side1 => exact Go.Proofs.YtkijneohhilboaaDoor.PIT.Tabs_below HG.out bl); rintro e w172 ⟨rfl, hb⟩; refine ⟨_, rfl, ?_⟩; have n0_ := Aside0.mk (below_step bl hb); clear HB; have HB := n0_; clear n0_; (try clear hb); (try clear hb2); (try clear hk); (try clear hi)) | ((with_reducible refine gate_callee (f := 13) rfl ?_); refine goesL_ (some 96) rfl rfl Tryd.func13 (by kernel_rfl) rfl #[.string t263] rfl (by (try simp only [List.map_toArray, List.map_cons, List.map_nil]); first | done | rfl | (simp only [List.length_drop, List.length_take]; rfl)) ?_; (with_reducible refine (int11_Of.calls kj29 t263 t265 true _ ?side1 A70.out).mono ?_); (case side1 => exact Go.Proofs.YtkijneohhilboaaDoor.PIT.Tabs_below HG.out bl); rintro e w173 ⟨rfl, hb⟩; refine ⟨_, rfl, ?_⟩; have n0_ := Aside0.mk (below_step bl hb); clear HB; have HB := n0_; clear n0_; (try clear hb); (try clear hb2); (try clear hk); (try clear hi)) | ((with_reducible refine gate_callee (f := 17) rfl ?_); refine goesL_ (some 100) rfl rfl Tryd.func17 (by kernel_rfl) rfl #[.int .u8 a1] rfl (by (try simp only [List.map_toArray, List.map_cons, List.map_nil]); first | done | rfl | (simp only [List.length_drop, List.length_take]; rfl)) ?_; (with_reducible refine (targumref4_IsDigit.calls a1 false _ A71.out).mono ?_); rintro e w' ⟨rfl, ⟨nd, rfl⟩⟩; refine ⟨_, rfl, ?_⟩))
                    go_ret
                    exact ⟨by first | rfl | (simp [errW_none, errW_some] <;> rfl) | (simp [*, errW_none, errW_some] <;> rfl), bl⟩
                  ·replace c168 := Bool.eq_false_iff.mpr c168
                   subst c168
                   have H1 : (some false) = some r := by rw [if_neg (show ¬ (false = true) by decide)] at H; exact H
                   clear H
                   have H := H1
                   clear H1
                   obtain rfl := Option.some.inj H
                   go_wp2_with (first | ((with_reducible refine gate_callee (f := 13) rfl ?_); refine goesL_ (some 91) rfl rfl Tryd.func13 (by kernel_rfl) rfl #[.string a0] rfl (by (try simp only [List.map_toArray, List.map_cons, List.map_nil]); first | done | rfl | (simp only [List.length_drop, List.length_take]; rfl)) ?_; (with_reducible refine (int11_Of.calls kj29 a0 t263 true _ ?side1 A69.out).mono ?_); (case side1 => exact Go.Proofs.YtkijneohhilboaaDoor.PIT.Tabs_below HG.out bl); rintro e w174 ⟨rfl, hb⟩; refine ⟨_, rfl, ?_⟩; have n0_ := Aside0.mk (below_step bl hb); clear HB; have HB := n0_; clear n0_; (try clear hb); (try clear hb2); (try clear hk); (try clear hi)) | ((with_reducible refine gate_callee (f := 13) rfl ?_); refine goesL_ (some 96) rfl rfl Tryd.func13 (by kernel_rfl) rfl #[.string t263] rfl (by (try simp only [List.map_toArray, List.map_cons, List.map_nil]); first | done | rfl | (simp only [List.length_drop, List.length_take]; rfl)) ?_; (with_reducible refine (int11_Of.calls kj29 t263 t265 false _ ?side1 A70.out).mono ?_); (case side1 => exact Go.Proofs.YtkijneohhilboaaDoor.PIT.Tabs_below HG.out bl); rintro e w175 ⟨rfl, hb⟩; refine ⟨_, rfl, ?_⟩; have n0_ := Aside0.mk (below_step bl hb); clear HB; have HB := n0_; clear n0_; (try clear hb); (try clear hb2); (try clear hk); (try clear hi)) | ((with_reducible refine gate_callee (f := 17) rfl ?_); refine goesL_ (some 100) rfl rfl Tryd.func17 (by kernel_rfl) rfl #[.int .u8 a1] rfl (by (try simp only [List.map_toArray, List.map_cons, List.map_nil]); first | done | rfl | (simp only [List.length_drop, List.length_take]; rfl)) ?_; (with_reducible refine (targumref4_IsDigit.calls a1 false _ A71.out).mono ?_); rintro e w' ⟨rfl, ⟨nd, rfl⟩⟩; refine ⟨_, rfl, ?_⟩))
                   go_ret
                   exact ⟨by first | rfl | (simp [errW_none, errW_some] <;> rfl) | (simp [*, errW_none, errW_some] <;> rfl), bl⟩
                 ·replace c167 := Bool.eq_false_iff.mpr c167
                  subst c167
                  have H1 : (some false) = some r := by rw [if_neg (show ¬ (false = true) by decide)] at H; exact H
                  clear H
                  have H := H1
                  clear H1
                  obtain rfl := Option.some.inj H
                  go_wp2_with (first | ((with_reducible refine gate_callee (f := 13) rfl ?_); refine goesL_ (some 91) rfl rfl Tryd.func13 (by kernel_rfl) rfl #[.string a0] rfl (by (try simp only [List.map_toArray, List.map_cons, List.map_nil]); first | done | rfl | (simp only [List.length_drop, List.length_take]; rfl)) ?_; (with_reducible refine (int11_Of.calls kj29 a0 t263 false _ ?side1 A69.out).mono ?_); (case side1 => exact Go.Proofs.YtkijneohhilboaaDoor.PIT.Tabs_below HG.out bl); rintro e w176 ⟨rfl, hb⟩; refine ⟨_, rfl, ?_⟩; have n0_ := Aside0.mk (below_step bl hb); clear HB; have HB := n0_; clear n0_; (try clear hb); (try clear hb2); (try clear hk); (try clear hi)) | ((with_reducible refine gate_callee (f := 13) rfl ?_); refine goesL_ (some 96) rfl rfl Tryd.func13 (by kernel_rfl) rfl #[.string t263] rfl (by (try simp only [List.map_toArray, List.map_cons, List.map_nil]); first | done | rfl | (simp only [List.length_drop, List.length_take]; rfl)) ?_; (with_reducible refine (int11_Of.calls kj29 t263 t265 t266 _ ?side1 A70.out).mono ?_); (case side1 => exact Go.Proofs.YtkijneohhilboaaDoor.PIT.Tabs_below HG.out bl); rintro e w177 ⟨rfl, hb⟩; refine ⟨_, rfl, ?_⟩; have n0_ := Aside0.mk (below_step bl hb); clear HB; have HB := n0_; clear n0_; (try clear hb); (try clear hb2); (try clear hk); (try clear hi)) | ((with_reducible refine gate_callee (f := 17) rfl ?_); refine goesL_ (some 100) rfl rfl Tryd.func17 (by kernel_rfl) rfl #[.int .u8 a1] rfl (by (try simp only [List.map_toArray, List.map_cons, List.map_nil]); first | done | rfl | (simp only [List.length_drop, List.length_take]; rfl)) ?_; (with_reducible refine (targumref4_IsDigit.calls a1 false _ A71.out).mono ?_); rintro e w' ⟨rfl, ⟨nd, rfl⟩⟩; refine ⟨_, rfl, ?_⟩))
                  go_ret
                  exact ⟨by first | rfl | (simp [errW_none, errW_some] <;> rfl) | (simp [*, errW_none, errW_some] <;> rfl), bl⟩
                ·as_aux_lemma =>
                 rw [if_neg c166] at H
                 have c166b0 : (a1 == 58) = false := beq_eq_false_iff_ne.mpr c166
                 have c166b1 : (a1 != 58) = true := bne_iff_ne.mpr c166
                 by_cases c178 : a1 = 120
                 ·rw [if_pos c178] at H
                  have c178b0 : (a1 == 120) = true := beq_iff_eq.mpr c178
                  have c178b1 : (a1 != 120) = false := bne_eq_false_iff_eq.mpr c178
                  clear c178
                  by_cases c179 : t264 = true
                  ·subst c179
                   have H1 : (if t266 = true then (if t265.toList = t263.toList then (some true) else (some false)) else (some false)) = some r := by rw [if_pos rfl] at H; exact H
                   clear H
                   have H := H1
                   clear H1
                   by_cases c180 : t266 = true
                   ·subst c180
                    have H1 : (if t265.toList = t263.toList then (some true) else (some false)) = some r := by rw [if_pos rfl] at H; exact H
                    clear H
                    have H := H1
                    clear H1
                    by_cases c181 : t265.toList = t263.toList
                    ·rw [if_pos c181] at H
                     have c181b0 : (t265.toList == t263.toList) = true := beq_iff_eq.mpr c181
                     have c181b1 : (t265.toList != t263.toList) = false := bne_eq_false_iff_eq.mpr c181
                     clear c181
                     obtain rfl := Option.some.inj H
                     go_wp2_with (first | ((with_reducible refine gate_callee (f := 13) rfl ?_); refine goesL_ (some 91) rfl rfl Tryd.func13 (by kernel_rfl) rfl #[.string a0] rfl (by (try simp only [List.map_toArray, List.map_cons, List.map_nil]); first | done | rfl | (simp only [List.length_drop, List.length_take]; rfl)) ?_; (with_reducible refine (int11_Of.calls kj29 a0 t263 true _ ?side1 A69.out).mono ?_); (case side1 => exact Go.Proofs.YtkijneohhilboaaDoor.PIT.Tabs_below HG.out bl); rintro e w182 ⟨rfl, hb⟩; refine ⟨_, rfl, ?_⟩; have n0_ := Aside0.mk (below_step bl hb); clear HB; have HB := n0_; clear n0_; (try clear hb); (try clear hb2); (try clear hk); (try clear hi)) | ((with_reducible refine gate_callee (f := 13) rfl ?_); refine goesL_ (some 96) rfl rfl Tryd.func13 (by kernel_rfl) rfl #[.string t263] rfl (by (try simp only [List.map_toArray, List.map_cons, List.map_nil]); first | done | rfl | (simp only [List.length_drop, List.length_take]; rfl)) ?_; (with_reducible refine (int11_Of.calls kj29 t263 t265 true _ ?side1 A70.out).mono ?_); (case side1 => exact Go.Proofs.YtkijneohhilboaaDoor.PIT.Tabs_below HG.out bl); rintro e w183 ⟨rfl, hb⟩; refine ⟨_, rfl, ?_⟩; have n0_ := Aside0.mk (below_step bl hb); clear HB; have HB := n0_; clear n0_; (try clear hb); (try clear hb2); (try clear hk); (try clear hi)) | ((with_reducible refine gate_callee (f := 17) rfl ?_); refine goesL_ (some 100) rfl rfl Tryd.func17 (by kernel_rfl) rfl #[.int .u8 a1] rfl (by (try simp only [List.map_toArray, List.map_cons, List.map_nil]); first | done | rfl | (simp only [List.length_drop, List.length_take]; rfl)) ?_; (with_reducible refine (targumref4_IsDigit.calls a1 false _ A71.out).mono ?_); rintro e w' ⟨rfl, ⟨nd, rfl⟩⟩; refine ⟨_, rfl, ?_⟩))
                     go_ret
                     exact ⟨by first | rfl | (simp [errW_none, errW_some] <;> rfl) | (simp [*, errW_none, errW_some] <;> rfl), bl⟩
                    ·rw [if_neg c181] at H
                     have c181b0 : (t265.toList == t263.toList) = false := beq_eq_false_iff_ne.mpr c181
                     have c181b1 : (t265.toList != t263.toList) = true := bne_iff_ne.mpr c181
                     obtain rfl := Option.some.inj H
                     go_wp2_with (first | ((with_reducible refine gate_callee (f := 13) rfl ?_); refine goesL_ (some 91) rfl rfl Tryd.func13 (by kernel_rfl) rfl #[.string a0] rfl (by (try simp only [List.map_toArray, List.map_cons, List.map_nil]); first | done | rfl | (simp only [List.length_drop, List.length_take]; rfl)) ?_; (with_reducible refine (int11_Of.calls kj29 a0 t263 true _ ?side1 A69.out).mono ?_); (case side1 => exact Go.Proofs.YtkijneohhilboaaDoor.PIT.Tabs_below HG.out bl); rintro e w184 ⟨rfl, hb⟩; refine ⟨_, rfl, ?_⟩; have n0_ := Aside0.mk (below_step bl hb); clear HB; have HB := n0_; clear n0_; (try clear hb); (try clear hb2); (try clear hk); (try clear hi)) | ((with_reducible refine gate_callee (f := 13) rfl ?_); refine goesL_ (some 96) rfl rfl Tryd.func13 (by kernel_rfl) rfl #[.string t263] rfl (by (try simp only [List.map_toArray, List.map_cons, List.map_nil]); first | done | rfl | (simp only [List.length_drop, List.length_take]; rfl)) ?_; (with_reducible refine (int11_Of.calls kj29 t263 t265 true _ ?side1 A70.out).mono ?_); (case side1 => exact Go.Proofs.YtkijneohhilboaaDoor.PIT.Tabs_below HG.out bl); rintro e w185 ⟨rfl, hb⟩; refine ⟨_, rfl, ?_⟩; have n0_ := Aside0.mk (below_step bl hb); clear HB; have HB := n0_; clear n0_; (try clear hb); (try clear hb2); (try clear hk); (try clear hi)) | ((with_reducible refine gate_callee (f := 17) rfl ?_); refine goesL_ (some 100) rfl rfl Tryd.func17 (by kernel_rfl) rfl #[.int .u8 a1] rfl (by (try simp only [List.map_toArray, List.map_cons, List.map_nil]); first | done | rfl | (simp only [List.length_drop, List.length_take]; rfl)) ?_; (with_reducible refine (targumref4_IsDigit.calls a1 false _ A71.out).mono ?_); rintro e w' ⟨rfl, ⟨nd, rfl⟩⟩; refine ⟨_, rfl, ?_⟩))
                     go_ret
                     exact ⟨by first | rfl | (simp [errW_none, errW_some] <;> rfl) | (simp [*, errW_none, errW_some] <;> rfl), bl⟩
                   ·replace c180 := Bool.eq_false_iff.mpr c180
                    subst c180
                    have H1 : (some false) = some r := by rw [if_neg (show ¬ (false = true) by decide)] at H; exact H
                    clear H
                    have H := H1
                    clear H1
                    obtain rfl := Option.some.inj H
                    go_wp2_with (first | ((with_reducible refine gate_callee (f := 13) rfl ?_); refine goesL_ (some 91) rfl rfl Tryd.func13 (by kernel_rfl) rfl #[.string a0] rfl (by (try simp only [List.map_toArray, List.map_cons, List.map_nil]); first | done | rfl | (simp only [List.length_drop, List.length_take]; rfl)) ?_; (with_reducible refine (int11_Of.calls kj29 a0 t263 true _ ?side1 A69.out).mono ?_); (case side1 => exact Go.Proofs.YtkijneohhilboaaDoor.PIT.Tabs_below HG.out bl); rintro e w186 ⟨rfl, hb⟩; refine ⟨_, rfl, ?_⟩; have n0_ := Aside0.mk (below_step bl hb); clear HB; have HB := n0_; clear n0_; (try clear hb); (try clear hb2); (try clear hk); (try clear hi)) | ((with_reducible refine gate_callee (f := 13) rfl ?_); refine goesL_ (some 96) rfl rfl Tryd.func13 (by kernel_rfl) rfl #[.string t263] rfl (by (try simp only [List.map_toArray, List.map_cons, List.map_nil]); first | done | rfl | (simp only [List.length_drop, List.length_take]; rfl)) ?_; (with_reducible refine (int11_Of.calls kj29 t263 t265 false _ ?side1 A70.out).mono ?_); (case side1 => exact Go.Proofs.YtkijneohhilboaaDoor.PIT.Tabs_below HG.out bl); rintro e w187 ⟨rfl, hb⟩; refine ⟨_, rfl, ?_⟩; have n0_ := Aside0.mk (below_step bl hb); clear HB; have HB := n0_; clear n0_; (try clear hb); (try clear hb2); (try clear hk); (try clear hi)) | ((with_reducible refine gate_callee (f := 17) rfl ?_); refine goesL_ (some 100) rfl rfl Tryd.func17 (by kernel_rfl) rfl #[.int .u8 a1] rfl (by (try simp only [List.map_toArray, List.map_cons, List.map_nil]); first | done | rfl | (simp only [List.length_drop, List.length_take]; rfl)) ?_; (with_reducible refine (targumref4_IsDigit.calls a1 false _ A71.out).mono ?_); rintro e w' ⟨rfl, ⟨nd, rfl⟩⟩; refine ⟨_, rfl, ?_⟩))
                    go_ret
                    exact ⟨by first | rfl | (simp [errW_none, errW_some] <;> rfl) | (simp [*, errW_none, errW_some] <;> rfl), bl⟩
                  ·replace c179 := Bool.eq_false_iff.mpr c179
                   subst c179
                   have H1 : (some false) = some r := by rw [if_neg (show ¬ (false = true) by decide)] at H; exact H
                   clear H
                   have H := H1
                   clear H1
                   obtain rfl := Option.some.inj H
                   go_wp2_with (first | ((with_reducible refine gate_callee (f := 13) rfl ?_); refine goesL_ (some 91) rfl rfl Tryd.func13 (by kernel_rfl) rfl #[.string a0] rfl (by (try simp only [List.map_toArray, List.map_cons, List.map_nil]); first | done | rfl | (simp only [List.length_drop, List.length_take]; rfl)) ?_; (with_reducible refine (int11_Of.calls kj29 a0 t263 false _ ?side1 A69.out).mono ?_); (case side1 => exact Go.Proofs.YtkijneohhilboaaDoor.PIT.Tabs_below HG.out bl); rintro e w188 ⟨rfl, hb⟩; refine ⟨_, rfl, ?_⟩; have n0_ := Aside0.mk (below_step bl hb); clear HB; have HB := n0_; clear n0_; (try clear hb); (try clear hb2); (try clear hk); (try clear hi)) | ((with_reducible refine gate_callee (f := 13) rfl ?_); refine goesL_ (some 96) rfl rfl Tryd.func13 (by kernel_rfl) rfl #[.string t263] rfl (by (try simp only [List.map_toArray, List.map_cons, List.map_nil]); first | done | rfl | (simp only [List.length_drop, List.length_take]; rfl)) ?_; (with_reducible refine (int11_Of.calls kj29 t263 t265 t266 _ ?side1 A70.out).mono ?_); (case side1 => exact Go.Proofs.YtkijneohhilboaaDoor.PIT.Tabs_below HG.out bl); rintro e w189 ⟨rfl, hb⟩; refine ⟨_, rfl, ?_⟩; have n0_ := Aside0.mk (below_step bl hb); clear HB; have HB := n0_; clear n0_; (try clear hb); (try clear hb2); (try clear hk); (try clear hi)) | ((with_reducible refine gate_callee (f := 17) rfl ?_); refine goesL_ (some 100) rfl rfl Tryd.func17 (by kernel_rfl) rfl #[.int .u8 a1] rfl (by (try simp only [List.map_toArray, List.map_cons, List.map_nil]); first | done | rfl | (simp only [List.length_drop, List.length_take]; rfl)) ?_; (with_reducible refine (targumref4_IsDigit.calls a1 false _ A71.out).mono ?_); rintro e w' ⟨rfl, ⟨nd, rfl⟩⟩; refine ⟨_, rfl, ?_⟩))
                   go_ret
                   exact ⟨by first | rfl | (simp [errW_none, errW_some] <;> rfl) | (simp [*, errW_none, errW_some] <;> rfl), bl⟩
                 ·as_aux_lemma =>
                  rw [if_neg c178] at H
                  have c178b0 : (a1 == 120) = false := beq_eq_false_iff_ne.mpr c178
                  have c178b1 : (a1 != 120) = true := bne_iff_ne.mpr c178
                  by_cases c190 : t264 = true
                  ·as_aux_lemma =>
                   subst c190
                   have H1 : (if t266 = true then (if t265.toList = t263.toList then (if a1 = 111 then (some true) else ((some (([a1] : List Int) : List Int)).bind fun y272 => (if a0.size + (strOfNums y272).size ≤ 9223372036854775807 then ((int11_Is.f (a0 ++ (strOfNums y272))).bind fun t275 => (some (!t275))) else (none)))) else (some false)) else (some false)) = some r := by rw [if_pos rfl] at H; exact H
                   clear H
                   have H := H1
                   clear H1
                   by_cases c191 : t266 = true
                   ·subst c191
                    have H1 : (if t265.toList = t263.toList then (if a1 = 111 then (some true) else ((some (([a1] : List Int) : List Int)).bind fun y272 => (if a0.size + (strOfNums y272).size ≤ 9223372036854775807 then ((int11_Is.f (a0 ++ (strOfNums y272))).bind fun t275 => (some (!t275))) else (none)))) else (some false)) = some r := by rw [if_pos rfl] at H; exact H
                    clear H
                    have H := H1
                    clear H1
                    by_cases c192 : t265.toList = t263.toList
                    ·rw [if_pos c192] at H
                     have c192b0 : (t265.toList == t263.toList) = true := beq_iff_eq.mpr c192
                     have c192b1 : (t265.toList != t263.toList) = false := bne_eq_false_iff_eq.mpr c192
                     clear c192
                     by_cases c193 : a1 = 111
                     ·rw [if_pos c193] at H
                      have c193b0 : (a1 == 111) = true := beq_iff_eq.mpr c193
                      have c193b1 : (a1 != 111) = false := bne_eq_false_iff_eq.mpr c193
                      clear c193
                      obtain rfl := Option.some.inj H
                      go_wp2_with (first | ((with_reducible refine gate_callee (f := 13) rfl ?_); refine goesL_ (some 91) rfl rfl Tryd.func13 (by kernel_rfl) rfl #[.string a0] rfl (by (try simp only [List.map_toArray, List.map_cons, List.map_nil]); first | done | rfl | (simp only [List.length_drop, List.length_take]; rfl)) ?_; (with_reducible refine (int11_Of.calls kj29 a0 t263 true _ ?side1 A69.out).mono ?_); (case side1 => exact Go.Proofs.YtkijneohhilboaaDoor.PIT.Tabs_below HG.out bl); rintro e w194 ⟨rfl, hb⟩; refine ⟨_, rfl, ?_⟩; have n0_ := Aside0.mk (below_step bl hb); clear HB; have HB := n0_; clear n0_; (try clear hb); (try clear hb2); (try clear hk); (try clear hi)) | ((with_reducible refine gate_callee (f := 13) rfl ?_); refine goesL_ (some 96) rfl rfl Tryd.func13 (by kernel_rfl) rfl #[.string t263] rfl (by (try simp only [List.map_toArray, List.map_cons, List.map_nil]); first | done | rfl | (simp only [List.length_drop, List.length_take]; rfl)) ?_; (with_reducible refine (int11_Of.calls kj29 t263 t265 true _ ?side1 A70.out).mono ?_); (case side1 => exact Go.Proofs.YtkijneohhilboaaDoor.PIT.Tabs_below HG.out bl); rintro e w195 ⟨rfl, hb⟩; refine ⟨_, rfl, ?_⟩; have n0_ := Aside0.mk (below_step bl hb); clear HB; have HB := n0_; clear n0_; (try clear hb); (try clear hb2); (try clear hk); (try clear hi)) | ((with_reducible refine gate_callee (f := 17) rfl ?_); refine goesL_ (some 100) rfl rfl Tryd.func17 (by kernel_rfl) rfl #[.int .u8 a1] rfl (by (try simp only [List.map_toArray, List.map_cons, List.map_nil]); first | done | rfl | (simp only [List.length_drop, List.length_take]; rfl)) ?_; (with_reducible refine (targumref4_IsDigit.calls a1 false _ A71.out).mono ?_); rintro e w' ⟨rfl, ⟨nd, rfl⟩⟩; refine ⟨_, rfl, ?_⟩))
                      go_ret
                      exact ⟨by first | rfl | (simp [errW_none, errW_some] <;> rfl) | (simp [*, errW_none, errW_some] <;> rfl), bl⟩
                     ·rw [if_neg c193] at H
                      have c193b0 : (a1 == 111) = false := beq_eq_false_iff_ne.mpr c193
                      have c193b1 : (a1 != 111) = true := bne_iff_ne.mpr c193
                      obtain ⟨y272, hy272⟩ : ∃ y_ : List Int, y_ = (([a1] : List Int)) := ⟨_, rfl⟩
                      replace H : (if a0.size + (strOfNums y272).size ≤ 9223372036854775807 then ((int11_Is.f (a0 ++ (strOfNums y272))).bind fun t275 => (some (!t275))) else (none)) = some r := by first | (rw [hy272]; with_reducible exact H) | (have H2_ := (Option.bind_some _ _).symm.trans H; rw [hy272]; with_reducible exact H2_) | (have H2_ := (Option.bind_some _ _).symm.trans H; with_reducible exact H2_) | with_reducible exact H | (rw [hy272]; exact H) | exact H
                      have Ny272 := Aside0.mk hy272
                      clear hy272
                      by_cases c196 : a0.size + (strOfNums y272).size ≤ 9223372036854775807
                      ·rw [if_pos c196] at H
                       have c196b0 := eq_true c196
                       have c196b1 : decide (a0.size + (strOfNums y272).size ≤ 9223372036854775807) = true := decide_eq_true c196
                       try have c196b2 : (9223372036854775807 < a0.size + (strOfNums y272).size) = False := eq_false (Nat.not_lt.2 c196)
                       replace H := Option.bind_eq_some_iff.mp H
                       obtain ⟨t275, A1970, H⟩ := H
                       replace H : (some (!t275)) = some r := H
                       have A197 := Aside0.mk A1970
                       clear A1970
                       obtain rfl := Option.some.inj H
                       go_wp2_with (first | ((with_reducible refine gate_callee (f := 13) rfl ?_); refine goesL_ (some 91) rfl rfl Tryd.func13 (by kernel_rfl) rfl #[.string a0] rfl (by (try simp only [List.map_toArray, List.map_cons, List.map_nil]); first | done | rfl | (simp only [List.length_drop, List.length_take]; rfl)) ?_; (with_reducible refine (int11_Of.calls kj29 a0 t263 true _ ?side1 A69.out).mono ?_); (case side1 => exact Go.Proofs.YtkijneohhilboaaDoor.PIT.Tabs_below HG.out bl); rintro e w198 ⟨rfl, hb⟩; refine ⟨_, rfl, ?_⟩; have n0_ := Aside0.mk (below_step bl hb); clear HB; have HB := n0_; clear n0_; (try clear hb); (try clear hb2); (try clear hk); (try clear hi)) | ((with_reducible refine gate_callee (f := 13) rfl ?_); refine goesL_ (some 96) rfl rfl Tryd.func13 (by kernel_rfl) rfl #[.string t263] rfl (by (try simp only [List.map_toArray, List.map_cons, List.map_nil]); first | done | rfl | (simp only [List.length_drop, List.length_take]; rfl)) ?_; (with_reducible refine (int11_Of.calls kj29 t263 t265 true _ ?side1 A70.out).mono ?_); (case side1 => exact Go.Proofs.YtkijneohhilboaaDoor.PIT.Tabs_below HG.out bl); rintro e w199 ⟨rfl, hb⟩; refine ⟨_, rfl, ?_⟩; have n0_ := Aside0.mk (below_step bl hb); clear HB; have HB := n0_; clear n0_; (try clear hb); (try clear hb2); (try clear hk); (try clear hi)) | ((with_reducible refine gate_callee (f := 17) rfl ?_); refine goesL_ (some 100) rfl rfl Tryd.func17 (by kernel_rfl) rfl #[.int .u8 a1] rfl (by (try simp only [List.map_toArray, List.map_cons, List.map_nil]); first | done | rfl | (simp only [List.length_drop, List.length_take]; rfl)) ?_; (with_reducible refine (targumref4_IsDigit.calls a1 false _ A71.out).mono ?_); rintro e w' ⟨rfl, ⟨nd, rfl⟩⟩; refine ⟨_, rfl, ?_⟩) | ((with_reducible refine gate_dst (N := 147) rfl ?_); (try (refine gate_guard (by rfl) ?_; dsimp only)); refine Kd.R_lit (Kd.int .u8) _ 5 ?hg (N := 147) ?hd (xs := ([a1] : List Int)) (inner := [.int .u8 a1]) (ok := fun _ => True) (okp := fun _ => True) ?hr ?hp (fun _ hk => hk) trivial (Below.refl _ _) (Nat.le_refl _) (by simp) ?_; (case hd => rfl); (case hg => rfl); (case hr => first | (go_simp; done) | (go_simp; rfl)); (case hp => exact (Reps.one (show Kd.M (Kd.int .u8) _ _ _ a1 [.int .u8 a1] from rfl) (Reps.none _ _))); intro v273 w200 ho201 hb hg_ hnew_; clear hg_ hnew_; (first | rw [← Ny272.out] at ho201 | (simp only [Int.reduceToNat] at ho201; rw [← Ny272.out] at ho201)); have n0_ := Aside0.mk (Kd.R_lower ho201 (below_size bl)); have n1_ := Aside0.mk (below_step bl hb); clear HB; have HO274 := n0_; have HB := n1_; clear n0_ n1_; clear hb ho201; have hcv202 := own_string (P := Tryd.prog) Tryd.underlying33 Tryd.underlying5 Tryd.underlying9 (Kd.own_of_R HO274.out)) | (go_at_call 16; (try (rename_i hK_; simp only [List.append] at hK_)); (with_reducible refine (int11_Is.calls (a0 ++ (strOfNums y272)) t275 _ A197.out).mono ?_); rintro e w203 ⟨rfl, hb⟩; have n0_ := Aside0.mk (Kd.R_below (by (with_reducible repeat (first | apply Kd.R_alloc | apply Kd.R_drewN | apply Kd.R_drew)); exact HO274.out) hb); have n1_ := Aside0.mk (below_step bl hb); clear HO274; clear HB; have HO274 := n0_; have HB := n1_; clear n0_ n1_; (try clear hb); (try clear hb2); (try clear hk); (try clear hi)))
                       go_ret
                       exact ⟨by first | rfl | (simp [errW_none, errW_some] <;> rfl) | (simp [*, errW_none, errW_some] <;> rfl), bl⟩
                      ·rw [if_neg c196] at H
                       exact absurd H (by simp)
                    ·rw [if_neg c192] at H
                     have c192b0 : (t265.toList == t263.toList) = false := beq_eq_false_iff_ne.mpr c192
                     have c192b1 : (t265.toList != t263.toList) = true := bne_iff_ne.mpr c192
                     obtain rfl := Option.some.inj H
                     go_wp2_with (first | ((with_reducible refine gate_callee (f := 13) rfl ?_); refine goesL_ (some 91) rfl rfl Tryd.func13 (by kernel_rfl) rfl #[.string a0] rfl (by (try simp only [List.map_toArray, List.map_cons, List.map_nil]); first | done | rfl | (simp only [List.length_drop, List.length_take]; rfl)) ?_; (with_reducible refine (int11_Of.calls kj29 a0 t263 true _ ?side1 A69.out).mono ?_); (case side1 => exact Go.Proofs.YtkijneohhilboaaDoor.PIT.Tabs_below HG.out bl); rintro e w204 ⟨rfl, hb⟩; refine ⟨_, rfl, ?_⟩; have n0_ := Aside0.mk (below_step bl hb); clear HB; have HB := n0_; clear n0_; (try clear hb); (try clear hb2); (try clear hk); (try clear hi)) | ((with_reducible refine gate_callee (f := 13) rfl ?_); refine goesL_ (some 96) rfl rfl Tryd.func13 (by kernel_rfl) rfl #[.string t263] rfl (by (try simp only [List.map_toArray, List.map_cons, List.map_nil]); first | done | rfl | (simp only [List.length_drop, List.length_take]; rfl)) ?_; (with_reducible refine (int11_Of.calls kj29 t263 t265 true _ ?side1 A70.out).mono ?_); (case side1 => exact Go.Proofs.YtkijneohhilboaaDoor.PIT.Tabs_below HG.out bl); rintro e w205 ⟨rfl, hb⟩; refine ⟨_, rfl, ?_⟩; have n0_ := Aside0.mk (below_step bl hb); clear HB; have HB := n0_; clear n0_; (try clear hb); (try clear hb2); (try clear hk); (try clear hi)) | ((with_reducible refine gate_callee (f := 17) rfl ?_); refine goesL_ (some 100) rfl rfl Tryd.func17 (by kernel_rfl) rfl #[.int .u8 a1] rfl (by (try simp only [List.map_toArray, List.map_cons, List.map_nil]); first | done | rfl | (simp only [List.length_drop, List.length_take]; rfl)) ?_; (with_reducible refine (targumref4_IsDigit.calls a1 false _ A71.out).mono ?_); rintro e w' ⟨rfl, ⟨nd, rfl⟩⟩; refine ⟨_, rfl, ?_⟩))
                     go_ret
                     exact ⟨by first | rfl | (simp [errW_none, errW_some] <;> rfl) | (simp [*, errW_none, errW_some] <;> rfl), bl⟩
                   ·replace c191 := Bool.eq_false_iff.mpr c191
                    subst c191
                    have H1 : (some false) = some r := by rw [if_neg (show ¬ (false = true) by decide)] at H; exact H
                    clear H
                    have H := H1
                    clear H1
                    obtain rfl := Option.some.inj H
                    go_wp2_with (first | ((with_reducible refine gate_callee (f := 13) rfl ?_); refine goesL_ (some 91) rfl rfl Tryd.func13 (by kernel_rfl) rfl #[.string a0] rfl (by (try simp only [List.map_toArray, List.map_cons, List.map_nil]); first | done | rfl | (simp only [List.length_drop, List.length_take]; rfl)) ?_; (with_reducible refine (int11_Of.calls kj29 a0 t263 true _ ?side1 A69.out).mono ?_); (case side1 => exact Go.Proofs.YtkijneohhilboaaDoor.PIT.Tabs_below HG.out bl); rintro e w206 ⟨rfl, hb⟩; refine ⟨_, rfl, ?_⟩; have n0_ := Aside0.mk (below_step bl hb); clear HB; have HB := n0_; clear n0_; (try clear hb); (try clear hb2); (try clear hk); (try clear hi)) | ((with_reducible refine gate_callee (f := 13) rfl ?_); refine goesL_ (some 96) rfl rfl Tryd.func13 (by kernel_rfl) rfl #[.string t263] rfl (by (try simp only [List.map_toArray, List.map_cons, List.map_nil]); first | done | rfl | (simp only [List.length_drop, List.length_take]; rfl)) ?_; (with_reducible refine (int11_Of.calls kj29 t263 t265 false _ ?side1 A70.out).mono ?_); (case side1 => exact Go.Proofs.YtkijneohhilboaaDoor.PIT.Tabs_below HG.out bl); rintro e w207 ⟨rfl, hb⟩; refine ⟨_, rfl, ?_⟩; have n0_ := Aside0.mk (below_step bl hb); clear HB; have HB := n0_; clear n0_; (try clear hb); (try clear hb2); (try clear hk); (try clear hi)) | ((with_reducible refine gate_callee (f := 17) rfl ?_); refine goesL_ (some 100) rfl rfl Tryd.func17 (by kernel_rfl) rfl #[.int .u8 a1] rfl (by (try simp only [List.map_toArray, List.map_cons, List.map_nil]); first | done | rfl | (simp only [List.length_drop, List.length_take]; rfl)) ?_; (with_reducible refine (targumref4_IsDigit.calls a1 false _ A71.out).mono ?_); rintro e w' ⟨rfl, ⟨nd, rfl⟩⟩; refine ⟨_, rfl, ?_⟩))
                    go_ret
                    exact ⟨by first | rfl | (simp [errW_none, errW_some] <;> rfl) | (simp [*, errW_none, errW_some] <;> rfl), bl⟩
                  ·replace c190 := Bool.eq_false_iff.mpr c190
                   subst c190
                   have H1 : (some false) = some r := by rw [if_neg (show ¬ (false = true) by decide)] at H; exact H
                   clear H
                   have H := H1
                   clear H1
                   obtain rfl := Option.some.inj H
                   go_wp2_with (first | ((with_reducible refine gate_callee (f := 13) rfl ?_); refine goesL_ (some 91) rfl rfl Tryd.func13 (by kernel_rfl) rfl #[.string a0] rfl (by (try simp only [List.map_toArray, List.map_cons, List.map_nil]); first | done | rfl | (simp only [List.length_drop, List.length_take]; rfl)) ?_; (with_reducible refine (int11_Of.calls kj29 a0 t263 false _ ?side1 A69.out).mono ?_); (case side1 => exact Go.Proofs.YtkijneohhilboaaDoor.PIT.Tabs_below HG.out bl); rintro e w208 ⟨rfl, hb⟩; refine ⟨_, rfl, ?_⟩; have n0_ := Aside0.mk (below_step bl hb); clear HB; have HB := n0_; clear n0_; (try clear hb); (try clear hb2); (try clear hk); (try clear hi)) | ((with_reducible refine gate_callee (f := 13) rfl ?_); refine goesL_ (some 96) rfl rfl Tryd.func13 (by kernel_rfl) rfl #[.string t263] rfl (by (try simp only [List.map_toArray, List.map_cons, List.map_nil]); first | done | rfl | (simp only [List.length_drop, List.length_take]; rfl)) ?_; (with_reducible refine (int11_Of.calls kj29 t263 t265 t266 _ ?side1 A70.out).mono ?_); (case side1 => exact Go.Proofs.YtkijneohhilboaaDoor.PIT.Tabs_below HG.out bl); rintro e w209 ⟨rfl, hb⟩; refine ⟨_, rfl, ?_⟩; have n0_ := Aside0.mk (below_step bl hb); clear HB; have HB := n0_; clear n0_; (try clear hb); (try clear hb2); (try clear hk); (try clear hi)) | ((with_reducible refine gate_callee (f := 17) rfl ?_); refine goesL_ (some 100) rfl rfl Tryd.func17 (by kernel_rfl) rfl #[.int .u8 a1] rfl (by (try simp only [List.map_toArray, List.map_cons, List.map_nil]); first | done | rfl | (simp only [List.length_drop, List.length_take]; rfl)) ?_; (with_reducible refine (targumref4_IsDigit.calls a1 false _ A71.out).mono ?_); rintro e w' ⟨rfl, ⟨nd, rfl⟩⟩; refine ⟨_, rfl, ?_⟩))
                   go_ret
                   exact ⟨by first | rfl | (simp [errW_none, errW_some] <;> rfl) | (simp [*, errW_none, errW_some] <;> rfl), bl⟩
             ·as_aux_lemma =>
              rw [if_neg c96] at H
              have c96b0 : decide (97 ≤ a1) = false := decide_eq_false c96
              clear c96
              by_cases c210 : a1 ≥ 65
              ·as_aux_lemma =>
               rw [if_pos c210] at H
               have c210b0 : decide (65 ≤ a1) = true := decide_eq_true c210
               clear c210
               by_cases c211 : a1 ≤ 70
               ·rw [if_pos c211] at H
                have c211b0 : decide (a1 ≤ 70) = true := decide_eq_true c211
                clear c211
                by_cases c212 : t264 = true
                ·subst c212
                 have H1 : (if t266 = true then (if t265.toList = t263.toList then (some true) else (some false)) else (some false)) = some r := by rw [if_pos rfl] at H; exact H
                 clear H
                 have H := H1
                 clear H1
                 by_cases c213 : t266 = true
                 ·subst c213
                  have H1 : (if t265.toList = t263.toList then (some true) else (some false)) = some r := by rw [if_pos rfl] at H; exact H
                  clear H
                  have H := H1
                  clear H1
                  by_cases c214 : t265.toList = t263.toList
                  ·rw [if_pos c214] at H
                   have c214b0 : (t265.toList == t263.toList) = true := beq_iff_eq.mpr c214
                   have c214b1 : (t265.toList != t263.toList) = false := bne_eq_false_iff_eq.mpr c214
                   clear c214
                   obtain rfl := Option.some.inj H
                   go_wp2_with (first | ((with_reducible refine gate_callee (f := 13) rfl ?_); refine goesL_ (some 91) rfl rfl Tryd.func13 (by kernel_rfl) rfl #[.string a0] rfl (by (try simp only [List.map_toArray, List.map_cons, List.map_nil]); first | done | rfl | (simp only [List.length_drop, List.length_take]; rfl)) ?_; (with_reducible refine (int11_Of.calls kj29 a0 t263 true _ ?side1 A69.out).mono ?_); (case side1 => exact Go.Proofs.YtkijneohhilboaaDoor.PIT.Tabs_below HG.out bl); rintro e w215 ⟨rfl, hb⟩; refine ⟨_, rfl, ?_⟩; have n0_ := Aside0.mk (below_step bl hb); clear HB; have HB := n0_; clear n0_; (try clear hb); (try clear hb2); (try clear hk); (try clear hi)) | ((with_reducible refine gate_callee (f := 13) rfl ?_); refine goesL_ (some 96) rfl rfl Tryd.func13 (by kernel_rfl) rfl #[.string t263] rfl (by (try simp only [List.map_toArray, List.map_cons, List.map_nil]); first | done | rfl | (simp only [List.length_drop, List.length_take]; rfl)) ?_; (with_reducible refine (int11_Of.calls kj29 t263 t265 true _ ?side1 A70.out).mono ?_); (case side1 => exact Go.Proofs.YtkijneohhilboaaDoor.PIT.Tabs_below HG.out bl); rintro e w216 ⟨rfl, hb⟩; refine ⟨_, rfl, ?_⟩; have n0_ := Aside0.mk (below_step bl hb); clear HB; have HB := n0_; clear n0_; (try clear hb); (try clear hb2); (try clear hk); (try clear hi)) | ((with_reducible refine gate_callee (f := 17) rfl ?_); refine goesL_ (some 100) rfl rfl Tryd.func17 (by kernel_rfl) rfl #[.int .u8 a1] rfl (by (try simp only [List.map_toArray, List.map_cons, List.map_nil]); first | done | rfl | (simp only [List.length_drop, List.length_take]; rfl)) ?_; (with_reducible refine (targumref4_IsDigit.calls a1 false _ A71.out).mono ?_); rintro e w' ⟨rfl, ⟨nd, rfl⟩⟩; refine ⟨_, rfl, ?_⟩))
                   go_ret
                   exact ⟨by first | rfl | (simp [errW_none, errW_some] <;> rfl) | (simp [*, errW_none, errW_some] <;> rfl), bl⟩
                  ·rw [if_neg c214] at H
                   have c214b0 : (t265.toList == t263.toList) = false := beq_eq_false_iff_ne.mpr c214
                   have c214b1 : (t265.toList != t263.toList) = true := bne_iff_ne.mpr c214
                   obtain rfl := Option.some.inj H
                   go_wp2_with (first | ((with_reducible refine gate_callee (f := 13) rfl ?_); refine goesL_ (some 91) rfl rfl Tryd.func13 (by kernel_rfl) rfl #[.string a0] rfl (by (try simp only [List.map_toArray, List.map_cons, List.map_nil]); first | done | rfl | (simp only [List.length_drop, List.length_take]; rfl)) ?_; (with_reducible refine (int11_Of.calls kj29 a0 t263 true _ ?side1 A69.out).mono ?_); (case side1 => exact Go.Proofs.YtkijneohhilboaaDoor.PIT.Tabs_below HG.out bl); rintro e w217 ⟨rfl, hb⟩; refine ⟨_, rfl, ?_⟩; have n0_ := Aside0.mk (below_step bl hb); clear HB; have HB := n0_; clear n0_; (try clear hb); (try clear hb2); (try clear hk); (try clear hi)) | ((with_reducible refine gate_callee (f := 13) rfl ?_); refine goesL_ (some 96) rfl rfl Tryd.func13 (by kernel_rfl) rfl #[.string t263] rfl (by (try simp only [List.map_toArray, List.map_cons, List.map_nil]); first | done | rfl | (simp only [List.length_drop, List.length_take]; rfl)) ?_; (with_reducible refine (int11_Of.calls kj29 t263 t265 true _ ?side1 A70.out).mono ?_); (case side1 => exact Go.Proofs.YtkijneohhilboaaDoor.PIT.Tabs_below HG.out bl); rintro e w218 ⟨rfl, hb⟩; refine ⟨_, rfl, ?_⟩; have n0_ := Aside0.mk (below_step bl hb); clear HB; have HB := n0_; clear n0_; (try clear hb); (try clear hb2); (try clear hk); (try clear hi)) | ((with_reducible refine gate_callee (f := 17) rfl ?_); refine goesL_ (some 100) rfl rfl Tryd.func17 (by kernel_rfl) rfl #[.int .u8 a1] rfl (by (try simp only [List.map_toArray, List.map_cons, List.map_nil]); first | done | rfl | (simp only [List.length_drop, List.length_take]; rfl)) ?_; (with_reducible refine (targumref4_IsDigit.calls a1 false _ A71.out).mono ?_); rintro e w' ⟨rfl, ⟨nd, rfl⟩⟩; refine ⟨_, rfl, ?_⟩))
                   go_ret
                   exact ⟨by first | rfl | (simp [errW_none, errW_some] <;> rfl) | (simp [*, errW_none, errW_some] <;> rfl), bl⟩
                 ·replace c213 := Bool.eq_false_iff.mpr c213
                  subst c213
                  have H1 : (some false) = some r := by rw [if_neg (show ¬ (false = true) by decide)] at H; exact H
                  clear H
                  have H := H1
                  clear H1
                  obtain rfl := Option.some.inj H
                  go_wp2_with (first | ((with_reducible refine gate_callee (f := 13) rfl ?_); refine goesL_ (some 91) rfl rfl Tryd.func13 (by kernel_rfl) rfl #[.string a0] rfl (by (try simp only [List.map_toArray, List.map_cons, List.map_nil]); first | done | rfl | (simp only [List.length_drop, List.length_take]; rfl)) ?_; (with_reducible refine (int11_Of.calls kj29 a0 t263 true _ ?side1 A69.out).mono ?_); (case side1 => exact Go.Proofs.YtkijneohhilboaaDoor.PIT.Tabs_below HG.out bl); rintro e w219 ⟨rfl, hb⟩; refine ⟨_, rfl, ?_⟩; have n0_ := Aside0.mk (below_step bl hb); clear HB; have HB := n0_; clear n0_; (try clear hb); (try clear hb2); (try clear hk); (try clear hi)) | ((with_reducible refine gate_callee (f := 13) rfl ?_); refine goesL_ (some 96) rfl rfl Tryd.func13 (by kernel_rfl) rfl #[.string t263] rfl (by (try simp only [List.map_toArray, List.map_cons, List.map_nil]); first | done | rfl | (simp only [List.length_drop, List.length_take]; rfl)) ?_; (with_reducible refine (int11_Of.calls kj29 t263 t265 false _ ?side1 A70.out).mono ?_); (case side1 => exact Go.Proofs.YtkijneohhilboaaDoor.PIT.Tabs_below HG.out bl); rintro e w220 ⟨rfl, hb⟩; refine ⟨_, rfl, ?_⟩; have n0_ := Aside0.mk (below_step bl hb); clear HB; have HB := n0_; clear n0_; (try clear hb); (try clear hb2); (try clear hk); (try clear hi)) | ((with_reducible refine gate_callee (f := 17) rfl ?_); refine goesL_ (some 100) rfl rfl Tryd.func17 (by kernel_rfl) rfl #[.int .u8 a1] rfl (by (try simp only [List.map_toArray, List.map_cons, List.map_nil]); first | done | rfl | (simp only [List.length_drop, List.length_take]; rfl)) ?_; (with_reducible refine (targumref4_IsDigit.calls a1 false _ A71.out).mono ?_); rintro e w' ⟨rfl, ⟨nd, rfl⟩⟩; refine ⟨_, rfl, ?_⟩))
                  go_ret
                  exact ⟨by first | rfl | (simp [errW_none, errW_some] <;> rfl) | (simp [*, errW_none, errW_some] <;> rfl), bl⟩
                ·replace c212 := Bool.eq_false_iff.mpr c212
                 subst c212
                 have H1 : (some false) = some r := by rw [if_neg (show ¬ (false = true) by decide)] at H; exact H
                 clear H
                 have H := H1
                 clear H1
                 obtain rfl := Option.some.inj H
                 go_wp2_with (first | ((with_reducible refine gate_callee (f := 13) rfl ?_); refine goesL_ (some 91) rfl rfl Tryd.func13 (by kernel_rfl) rfl #[.string a0] rfl (by (try simp only [List.map_toArray, List.map_cons, List.map_nil]); first | done | rfl | (simp only [List.length_drop, List.length_take]; rfl)) ?_; (with_reducible refine (int11_Of.calls kj29 a0 t263 false _ ?side1 A69.out).mono ?_); (case side1 => exact Go.Proofs.YtkijneohhilboaaDoor.PIT.Tabs_below HG.out bl); rintro e w221 ⟨rfl, hb⟩; refine ⟨_, rfl, ?_⟩; have n0_ := Aside0.mk (below_step bl hb); clear HB; have HB := n0_; clear n0_; (try clear hb); (try clear hb2); (try clear hk); (try clear hi)) | ((with_reducible refine gate_callee (f := 13) rfl ?_); refine goesL_ (some 96) rfl rfl Tryd.func13 (by kernel_rfl) rfl #[.string t263] rfl (by (try simp only [List.map_toArray, List.map_cons, List.map_nil]); first | done | rfl | (simp only [List.length_drop, List.length_take]; rfl)) ?_; (with_reducible refine (int11_Of.calls kj29 t263 t265 t266 _ ?side1 A70.out).mono ?_); (case side1 => exact Go.Proofs.YtkijneohhilboaaDoor.PIT.Tabs_below HG.out bl); rintro e w222 ⟨rfl, hb⟩; refine ⟨_, rfl, ?_⟩; have n0_ := Aside0.mk (below_step bl hb); clear HB; have HB := n0_; clear n0_; (try clear hb); (try clear hb2); (try clear hk); (try clear hi)) | ((with_reducible refine gate_callee (f := 17) rfl ?_); refine goesL_ (some 100) rfl rfl Tryd.func17 (by kernel_rfl) rfl #[.int .u8 a1] rfl (by (try simp only [List.map_toArray, List.map_cons, List.map_nil]); first | done | rfl | (simp only [List.length_drop, List.length_take]; rfl)) ?_; (with_reducible refine (targumref4_IsDigit.calls a1 false _ A71.out).mono ?_); rintro e w' ⟨rfl, ⟨nd, rfl⟩⟩; refine ⟨_, rfl, ?_⟩))
                 go_ret
                 exact ⟨by first | rfl | (simp [errW_none, errW_some] <;> rfl) | (simp [*, errW_none, errW_some] <;> rfl), bl⟩
               ·as_aux_lemma =>
                rw [if_neg c211] at H
                have c211b0 : decide (a1 ≤ 70) = false := decide_eq_false c211
                clear c211
                by_cases c223 : a1 = 58
                ·rw [if_pos c223] at H
                 have c223b0 : (a1 == 58) = true := beq_iff_eq.mpr c223
                 have c223b1 : (a1 != 58) = false := bne_eq_false_iff_eq.mpr c223
                 clear c223
                 by_cases c224 : t264 = true
                 ·subst c224
                  have H1 : (if t266 = true then (if t265.toList = t263.toList then (some true) else (some false)) else (some false)) = some r := by rw [if_pos rfl] at H; exact H
                  clear H
                  have H := H1
                  clear H1
                  by_cases c225 : t266 = true
                  ·subst c225
                   have H1 : (if t265.toList = t263.toList then (some true) else (some false)) = some r := by rw [if_pos rfl] at H; exact H
                   clear H
                   have H := H1
                   clear H1
                   by_cases c226 : t265.toList = t263.toList
                   ·rw [if_pos c226] at H
                    have c226b0 : (t265.toList == t263.toList) = true := beq_iff_eq.mpr c226
                    have c226b1 : (t265.toList != t263.toList) = false := bne_eq_false_iff_eq.mpr c226
                    clear c226
                    obtain rfl := Option.some.inj H
                    go_wp2_with (first | ((with_reducible refine gate_callee (f := 13) rfl ?_); refine goesL_ (some 91) rfl rfl Tryd.func13 (by kernel_rfl) rfl #[.string a0] rfl (by (try simp only [List.map_toArray, List.map_cons, List.map_nil]); first | done | rfl | (simp only [List.length_drop, List.length_take]; rfl)) ?_; (with_reducible refine (int11_Of.calls kj29 a0 t263 true _ ?side1 A69.out).mono ?_); (case side1 => exact Go.Proofs.YtkijneohhilboaaDoor.PIT.Tabs_below HG.out bl); rintro e w227 ⟨rfl, hb⟩; refine ⟨_, rfl, ?_⟩; have n0_ := Aside0.mk (below_step bl hb); clear HB; have HB := n0_; clear n0_; (try clear hb); (try clear hb2); (try clear hk); (try clear hi)) | ((with_reducible refine gate_callee (f := 13) rfl ?_); refine goesL_ (some 96) rfl rfl Tryd.func13 (by kernel_rfl) rfl #[.string t263] rfl (by (try simp only [List.map_toArray, List.map_cons, List.map_nil]); first | done | rfl | (simp only [List.length_drop, List.length_take]; rfl)) ?_; (with_reducible refine (int11_Of.calls kj29 t263 t265 true _ ?side1 A70.out).mono ?_); (case side1 => exact Go.Proofs.YtkijneohhilboaaDoor.PIT.Tabs_below HG.out bl); rintro e w228 ⟨rfl, hb⟩; refine ⟨_, rfl, ?_⟩; have n0_ := Aside0.mk (below_step bl hb); clear HB; have HB := n0_; clear n0_; (try clear hb); (try clear hb2); (try clear hk); (try clear hi)) | ((with_reducible refine gate_callee (f := 17) rfl ?_); refine goesL_ (some 100) rfl rfl Tryd.func17 (by kernel_rfl) rfl #[.int .u8 a1] rfl (by (try simp only [List.map_toArray, List.map_cons, List.map_nil]); first | done | rfl | (simp only [List.length_drop, List.length_take]; rfl)) ?_; (with_reducible refine (targumref4_IsDigit.calls a1 false _ A71.out).mono ?_); rintro e w' ⟨rfl, ⟨nd, rfl⟩⟩; refine ⟨_, rfl, ?_⟩))
                    go_ret
                    exact ⟨by first | rfl | (simp [errW_none, errW_some] <;> rfl) | (simp [*, errW_none, errW_some] <;> rfl), bl⟩
                   ·rw [if_neg c226] at H
                    have c226b0 : (t265.toList == t263.toList) = false := beq_eq_false_iff_ne.mpr c226
                    have c226b1 : (t265.toList != t263.toList) = true := bne_iff_ne.mpr c226
                    obtain rfl := Option.some.inj H
                    go_wp2_with (first | ((with_reducible refine gate_callee (f := 13) rfl ?_); refine goesL_ (some 91) rfl rfl Tryd.func13 (by kernel_rfl) rfl #[.string a0] rfl (by (try simp only [List.map_toArray, List.map_cons, List.map_nil]); first | done | rfl | (simp only [List.length_drop, List.length_take]; rfl)) ?_; (with_reducible refine (int11_Of.calls kj29 a0 t263 true _ ?side1 A69.out).mono ?_); (case side1 => exact Go.Proofs.YtkijneohhilboaaDoor.PIT.Tabs_below HG.out bl); rintro e w229 ⟨rfl, hb⟩; refine ⟨_, rfl, ?_⟩; have n0_ := Aside0.mk (below_step bl hb); clear HB; have HB := n0_; clear n0_; (try clear hb); (try clear hb2); (try clear hk); (try clear hi)) | ((with_reducible refine gate_callee (f := 13) rfl ?_); refine goesL_ (some 96) rfl rfl Tryd.func13 (by kernel_rfl) rfl #[.string t263] rfl (by (try simp only [List.map_toArray, List.map_cons, List.map_nil]); first | done | rfl | (simp only [List.length_drop, List.length_take]; rfl)) ?_; (with_reducible refine (int11_Of.calls kj29 t263 t265 true _ ?side1 A70.out).mono ?_); (case side1 => exact Go.Proofs.YtkijneohhilboaaDoor.PIT.Tabs_below HG.out bl); rintro e w230 ⟨rfl, hb⟩; refine ⟨_, rfl, ?_⟩; have n0_ := Aside0.mk (below_step bl hb); clear HB; have HB := n0_; clear n0_; (try clear hb); (try clear hb2); (try clear hk); (try clear hi)) | ((with_reducible refine gate_callee (f := 17) rfl ?_); refine goesL_ (some 100) rfl rfl Tryd.func17 (by kernel_rfl) rfl #[.int .u8 a1] rfl (by (try simp only [List.map_toArray, List.map_cons, List.map_nil]); first | done | rfl | (simp only [List.length_drop, List.length_take]; rfl)) ?_; (with_reducible refine (targumref4_IsDigit.calls a1 false _ A71.out).mono ?_); rintro e w' ⟨rfl, ⟨nd, rfl⟩⟩; refine ⟨_, rfl, ?_⟩))
                    go_ret
                    exact ⟨by first | rfl | (simp [errW_none, errW_some] <;> rfl) | (simp [*, errW_none, errW_some] <;> rfl), bl⟩
                  ·replace c225 := Bool.eq_false_iff.mpr c225
                   subst c225
                   have H1 : (some false) = some r := by rw [if_neg (show ¬ (false = true) by decide)] at H; exact H
                   clear H
                   have H := H1
                   clear H1
                   obtain rfl := Option.some.inj H
                   go_wp2_with (first | ((with_reducible refine gate_callee (f := 13) rfl ?_); refine goesL_ (some 91) rfl rfl Tryd.func13 (by kernel_rfl) rfl #[.string a0] rfl (by (try simp only [List.map_toArray, List.map_cons, List.map_nil]); first | done | rfl | (simp only [List.length_drop, List.length_take]; rfl)) ?_; (with_reducible refine (int11_Of.calls kj29 a0 t263 true _ ?side1 A69.out).mono ?_); (case side1 => exact Go.Proofs.YtkijneohhilboaaDoor.PIT.Tabs_below HG.out bl); rintro e w231 ⟨rfl, hb⟩; refine ⟨_, rfl, ?_⟩; have n0_ := Aside0.mk (below_step bl hb); clear HB; have HB := n0_; clear n0_; (try clear hb); (try clear hb2); (try clear hk); (try clear hi)) | ((with_reducible refine gate_callee (f := 13) rfl ?_); refine goesL_ (some 96) rfl rfl Tryd.func13 (by kernel_rfl) rfl #[.string t263] rfl (by (try simp only [List.map_toArray, List.map_cons, List.map_nil]); first | done | rfl | (simp only [List.length_drop, List.length_take]; rfl)) ?_; (with_reducible refine (int11_Of.calls kj29 t263 t265 false _ ?side1 A70.out).mono ?_); (case side1 => exact Go.Proofs.YtkijneohhilboaaDoor.PIT.Tabs_below HG.out bl); rintro e w232 ⟨rfl, hb⟩; refine ⟨_, rfl, ?_⟩; have n0_ := Aside0.mk (below_step bl hb); clear HB; have HB := n0_; clear n0_; (try clear hb); (try clear hb2); (try clear hk); (try clear hi)) | ((with_reducible refine gate_callee (f := 17) rfl ?_); refine goesL_ (some 100) rfl rfl Tryd.func17 (by kernel_rfl) rfl #[.int .u8 a1] rfl (by (try simp only [List.map_toArray, List.map_cons, List.map_nil]); first | done | rfl | (simp only [List.length_drop, List.length_take]; rfl)) ?_; (with_reducible refine (targumref4_IsDigit.calls a1 false _ A71.out).mono ?_); rintro e w' ⟨rfl, ⟨nd, rfl⟩⟩; refine ⟨_, rfl, ?_⟩))
                   go_ret
                   exact ⟨by first | rfl | (simp [errW_none, errW_some] <;> rfl) | (simp [*, errW_none, errW_some] <;> rfl), bl⟩
                 ·replace c224 := Bool.eq_false_iff.mpr c224
                  subst c224
                  have H1 : (some false) = some r := by rw [if_neg (show ¬ (false = true) by decide)] at H; exact H
                  clear H
                  have H := H1
                  clear H1
                  obtain rfl := Option.some.inj H
                  go_wp2_with (first | ((with_reducible refine gate_callee (f := 13) rfl ?_); refine goesL_ (some 91) rfl rfl Tryd.func13 (by kernel_rfl) rfl #[.string a0] rfl (by (try simp only [List.map_toArray, List.map_cons, List.map_nil]); first | done | rfl | (simp only [List.length_drop, List.length_take]; rfl)) ?_; (with_reducible refine (int11_Of.calls kj29 a0 t263 false _ ?side1 A69.out).mono ?_); (case side1 => exact Go.Proofs.YtkijneohhilboaaDoor.PIT.Tabs_below HG.out bl); rintro e w233 ⟨rfl, hb⟩; refine ⟨_, rfl, ?_⟩; have n0_ := Aside0.mk (below_step bl hb); clear HB; have HB := n0_; clear n0_; (try clear hb); (try clear hb2); (try clear hk); (try clear hi)) | ((with_reducible refine gate_callee (f := 13) rfl ?_); refine goesL_ (some 96) rfl rfl Tryd.func13 (by kernel_rfl) rfl #[.string t263] rfl (by (try simp only [List.map_toArray, List.map_cons, List.map_nil]); first | done | rfl | (simp only [List.length_drop, List.length_take]; rfl)) ?_; (with_reducible refine (int11_Of.calls kj29 t263 t265 t266 _ ?side1 A70.out).mono ?_); (case side1 => exact Go.Proofs.YtkijneohhilboaaDoor.PIT.Tabs_below HG.out bl); rintro e w234 ⟨rfl, hb⟩; refine ⟨_, rfl, ?_⟩; have n0_ := Aside0.mk (below_step bl hb); clear HB; have HB := n0_; clear n0_; (try clear hb); (try clear hb2); (try clear hk); (try clear hi)) | ((with_reducible refine gate_callee (f := 17) rfl ?_); refine goesL_ (some 100) rfl rfl Tryd.func17 (by kernel_rfl) rfl #[.int .u8 a1] rfl (by (try simp only [List.map_toArray, List.map_cons, List.map_nil]); first | done | rfl | (simp only [List.length_drop, List.length_take]; rfl)) ?_; (with_reducible refine (targumref4_IsDigit.calls a1 false _ A71.out).mono ?_); rintro e w' ⟨rfl, ⟨nd, rfl⟩⟩; refine ⟨_, rfl, ?_⟩))
                  go_ret
                  exact ⟨by first | rfl | (simp [errW_none, errW_some] <;> rfl) | (simp [*, errW_none, errW_some] <;> rfl), bl⟩
                ·as_aux_lemma =>
                 rw [if_neg c223] at H
                 have c223b0 : (a1 == 58) = false := beq_eq_false_iff_ne.mpr c223
                 have c223b1 : (a1 != 58) = true := bne_iff_ne.mpr c223
                 by_cases c235 : a1 = 120
                 ·rw [if_pos c235] at H
                  have c235b0 : (a1 == 120) = true := beq_iff_eq.mpr c235
                  have c235b1 : (a1 != 120) = false := bne_eq_false_iff_eq.mpr c235
                  clear c235
                  by_cases c236 : t264 = true
                  ·subst c236
                   have H1 : (if t266 = true then (if t265.toList = t263.toList then (some true) else (some false)) else (some false)) = some r := by rw [if_pos rfl] at H; exact H
                   clear H
                   have H := H1
                   clear H1
                   by_cases c237 : t266 = true
                   ·subst c237
                    have H1 : (if t265.toList = t263.toList then (some true) else (some false)) = some r := by rw [if_pos rfl] at H; exact H
                    clear H
                    have H := H1
                    clear H1
                    by_cases c238 : t265.toList = t263.toList
                    ·rw [if_pos c238] at H
                     have c238b0 : (t265.toList == t263.toList) = true := beq_iff_eq.mpr c238
                     have c238b1 : (t265.toList != t263.toList) = false := bne_eq_false_iff_eq.mpr c238
                     clear c238
                     obtain rfl := Option.some.inj H
                     go_wp2_with (first | ((with_reducible refine gate_callee (f := 13) rfl ?_); refine goesL_ (some 91) rfl rfl Tryd.func13 (by kernel_rfl) rfl #[.string a0] rfl (by (try simp only [List.map_toArray, List.map_cons, List.map_nil]); first | done | rfl | (simp only [List.length_drop, List.length_take]; rfl)) ?_; (with_reducible refine (int11_Of.calls kj29 a0 t263 true _ ?side1 A69.out).mono ?_); (case side1 => exact Go.Proofs.YtkijneohhilboaaDoor.PIT.Tabs_below HG.out bl); rintro e w239 ⟨rfl, hb⟩; refine ⟨_, rfl, ?_⟩; have n0_ := Aside0.mk (below_step bl hb); clear HB; have HB := n0_; clear n0_; (try clear hb); (try clear hb2); (try clear hk); (try clear hi)) | ((with_reducible refine gate_callee (f := 13) rfl ?_); refine goesL_ (some 96) rfl rfl Tryd.func13 (by kernel_rfl) rfl #[.string t263] rfl (by (try simp only [List.map_toArray, List.map_cons, List.map_nil]); first | done | rfl | (simp only [List.length_drop, List.length_take]; rfl)) ?_; (with_reducible refine (int11_Of.calls kj29 t263 t265 true _ ?side1 A70.out).mono ?_); (case side1 => exact Go.Proofs.YtkijneohhilboaaDoor.PIT.Tabs_below HG.out bl); rintro e w240 ⟨rfl, hb⟩; refine ⟨_, rfl, ?_⟩; have n0_ := Aside0.mk (below_step bl hb); clear HB; have HB := n0_; clear n0_; (try clear hb); (try clear hb2); (try clear hk); (try clear hi)) | ((with_reducible refine gate_callee (f := 17) rfl ?_); refine goesL_ (some 100) rfl rfl Tryd.func17 (by kernel_rfl) rfl #[.int .u8 a1] rfl (by (try simp only [List.map_toArray, List.map_cons, List.map_nil]); first | done | rfl | (simp only [List.length_drop, List.length_take]; rfl)) ?_; (with_reducible refine (targumref4_IsDigit.calls a1 false _ A71.out).mono ?_); rintro e w' ⟨rfl, ⟨nd, rfl⟩⟩; refine ⟨_, rfl, ?_⟩))
                     go_ret
                     exact ⟨by first | rfl | (simp [errW_none, errW_some] <;> rfl) | (simp [*, errW_none, errW_some] <;> rfl), bl⟩
                    ·rw [if_neg c238] at H
                     have c238b0 : (t265.toList == t263.toList) = false := beq_eq_false_iff_ne.mpr c238
                     have c238b1 : (t265.toList != t263.toList) = true := bne_iff_ne.mpr c238
                     obtain rfl := Option.some.inj H
                     go_wp2_with (first | ((with_reducible refine gate_callee (f := 13) rfl ?_); refine goesL_ (some 91) rfl rfl Tryd.func13 (by kernel_rfl) rfl #[.string a0] rfl (by (try simp only [List.map_toArray, List.map_cons, List.map_nil]); first | done | rfl | (simp only [List.length_drop, List.length_take]; rfl)) ?_; (with_reducible refine (int11_Of.calls kj29 a0 t263 true _ ?side1 A69.out).mono ?_); (case side1 => exact Go.Proofs.YtkijneohhilboaaDoor.PIT.Tabs_below HG.out bl); rintro e w241 ⟨rfl, hb⟩; refine ⟨_, rfl, ?_⟩; have n0_ := Aside0.mk (below_step bl hb); clear HB; have HB := n0_; clear n0_; (try clear hb); (try clear hb2); (try clear hk); (try clear hi)) | ((with_reducible refine gate_callee (f := 13) rfl ?_); refine goesL_ (some 96) rfl rfl Tryd.func13 (by kernel_rfl) rfl #[.string t263] rfl (by (try simp only [List.map_toArray, List.map_cons, List.map_nil]); first | done | rfl | (simp only [List.length_drop, List.length_take]; rfl)) ?_; (with_reducible refine (int11_Of.calls kj29 t263 t265 true _ ?side1 A70.out).mono ?_); (case side1 => exact Go.Proofs.YtkijneohhilboaaDoor.PIT.Tabs_below HG.out bl); rintro e w242 ⟨rfl, hb⟩; refine ⟨_, rfl, ?_⟩; have n0_ := Aside0.mk (below_step bl hb); clear HB; have HB := n0_; clear n0_; (try clear hb); (try clear hb2); (try clear hk); (try clear hi)) | ((with_reducible refine gate_callee (f := 17) rfl ?_); refine goesL_ (some 100) rfl rfl Tryd.func17 (by kernel_rfl) rfl #[.int .u8 a1] rfl (by (try simp only [List.map_toArray, List.map_cons, List.map_nil]); first | done | rfl | (simp only [List.length_drop, List.length_take]; rfl)) ?_; (with_reducible refine (targumref4_IsDigit.calls a1 false _ A71.out).mono ?_); rintro e w' ⟨rfl, ⟨nd, rfl⟩⟩; refine ⟨_, rfl, ?_⟩))
                     go_ret
                     exact ⟨by first | rfl | (simp [errW_none, errW_some] <;> rfl) | (simp [*, errW_none, errW_some] <;> rfl), bl⟩
                   ·replace c237 := Bool.eq_false_iff.mpr c237
                    subst c237
                    have H1 : (some false) = some r := by rw [if_neg (show ¬ (false = true) by decide)] at H; exact H
                    clear H
                    have H := H1
                    clear H1
                    obtain rfl := Option.some.inj H
                    go_wp2_with (first | ((with_reducible refine gate_callee (f := 13) rfl ?_); refine goesL_ (some 91) rfl rfl Tryd.func13 (by kernel_rfl) rfl #[.string a0] rfl (by (try simp only [List.map_toArray, List.map_cons, List.map_nil]); first | done | rfl | (simp only [List.length_drop, List.length_take]; rfl)) ?_; (with_reducible refine (int11_Of.calls kj29 a0 t263 true _ ?side1 A69.out).mono ?_); (case side1 => exact Go.Proofs.YtkijneohhilboaaDoor.PIT.Tabs_below HG.out bl); rintro e w243 ⟨rfl, hb⟩; refine ⟨_, rfl, ?_⟩; have n0_ := Aside0.mk (below_step bl hb); clear HB; have HB := n0_; clear n0_; (try clear hb); (try clear hb2); (try clear hk); (try clear hi)) | ((with_reducible refine gate_callee (f := 13) rfl ?_); refine goesL_ (some 96) rfl rfl Tryd.func13 (by kernel_rfl) rfl #[.string t263] rfl (by (try simp only [List.map_toArray, List.map_cons, List.map_nil]); first | done | rfl | (simp only [List.length_drop, List.length_take]; rfl)) ?_; (with_reducible refine (int11_Of.calls kj29 t263 t265 false _ ?side1 A70.out).mono ?_); (case side1 => exact Go.Proofs.YtkijneohhilboaaDoor.PIT.Tabs_below HG.out bl); rintro e w244 ⟨rfl, hb⟩; refine ⟨_, rfl, ?_⟩; have n0_ := Aside0.mk (below_step bl hb); clear HB; have HB := n0_; clear n0_; (try clear hb); (try clear hb2); (try clear hk); (try clear hi)) | ((with_reducible refine gate_callee (f := 17) rfl ?_); refine goesL_ (some 100) rfl rfl Tryd.func17 (by kernel_rfl) rfl #[.int .u8 a1] rfl (by (try simp only [List.map_toArray, List.map_cons, List.map_nil]); first | done | rfl | (simp only [List.length_drop, List.length_take]; rfl)) ?_; (with_reducible refine (targumref4_IsDigit.calls a1 false _ A71.out).mono ?_); rintro e w' ⟨rfl, ⟨nd, rfl⟩⟩; refine ⟨_, rfl, ?_⟩))
                    go_ret
                    exact ⟨by first | rfl | (simp [errW_none, errW_some] <;> rfl) | (simp [*, errW_none, errW_some] <;> rfl), bl⟩
                  ·replace c236 := Bool.eq_false_iff.mpr c236
                   subst c236
                   have H1 : (some false) = some r := by rw [if_neg (show ¬ (false = true) by decide)] at H; exact H
                   clear H
                   have H := H1
                   clear H1
                   obtain rfl := Option.some.inj H
                   go_wp2_with (first | ((with_reducible refine gate_callee (f := 13) rfl ?_); refine goesL_ (some 91) rfl rfl Tryd.func13 (by kernel_rfl) rfl #[.string a0] rfl (by (try simp only [List.map_toArray, List.map_cons, List.map_nil]); first | done | rfl | (simp only [List.length_drop, List.length_take]; rfl)) ?_; (with_reducible refine (int11_Of.calls kj29 a0 t263 false _ ?side1 A69.out).mono ?_); (case side1 => exact Go.Proofs.YtkijneohhilboaaDoor.PIT.Tabs_below HG.out bl); rintro e w245 ⟨rfl, hb⟩; refine ⟨_, rfl, ?_⟩; have n0_ := Aside0.mk (below_step bl hb); clear HB; have HB := n0_; clear n0_; (try clear hb); (try clear hb2); (try clear hk); (try clear hi)) | ((with_reducible refine gate_callee (f := 13) rfl ?_); refine goesL_ (some 96) rfl rfl Tryd.func13 (by kernel_rfl) rfl #[.string t263] rfl (by (try simp only [List.map_toArray, List.map_cons, List.map_nil]); first | done | rfl | (simp only [List.length_drop, List.length_take]; rfl)) ?_; (with_reducible refine (int11_Of.calls kj29 t263 t265 t266 _ ?side1 A70.out).mono ?_); (case side1 => exact Go.Proofs.YtkijneohhilboaaDoor.PIT.Tabs_below HG.out bl); rintro e w246 ⟨rfl, hb⟩; refine ⟨_, rfl, ?_⟩; have n0_ := Aside0.mk (below_step bl hb); clear HB; have HB := n0_; clear n0_; (try clear hb); (try clear hb2); (try clear hk); (try clear hi)) | ((with_reducible refine gate_callee (f := 17) rfl ?_); refine goesL_ (some 100) rfl rfl Tryd.func17 (by kernel_rfl) rfl #[.int .u8 a1] rfl (by (try simp only [List.map_toArray, List.map_cons, List.map_nil]); first | done | rfl | (simp only [List.length_drop, List.length_take]; rfl)) ?_; (with_reducible refine (targumref4_IsDigit.calls a1 false _ A71.out).mono ?_); rintro e w' ⟨rfl, ⟨nd, rfl⟩⟩; refine ⟨_, rfl, ?_⟩))
                   go_ret
                   exact ⟨by first | rfl | (simp [errW_none, errW_some] <;> rfl) | (simp [*, errW_none, errW_some] <;> rfl), bl⟩
                 ·as_aux_lemma =>
                  rw [if_neg c235] at H
                  have c235b0 : (a1 == 120) = false := beq_eq_false_iff_ne.mpr c235
                  have c235b1 : (a1 != 120) = true := bne_iff_ne.mpr c235
                  by_cases c247 : t264 = true
                  ·as_aux_lemma =>
                   subst c247
                   have H1 : (if t266 = true then (if t265.toList = t263.toList then (if a1 = 111 then (some true) else ((some (([a1] : List Int) : List Int)).bind fun y276 => (if a0.size + (strOfNums y276).size ≤ 9223372036854775807 then ((int11_Is.f (a0 ++ (strOfNums y276))).bind fun t279 => (some (!t279))) else (none)))) else (some false)) else (some false)) = some r := by rw [if_pos rfl] at H; exact H
                   clear H
                   have H := H1
                   clear H1
                   by_cases c248 : t266 = true
                   ·subst c248
                    have H1 : (if t265.toList = t263.toList then (if a1 = 111 then (some true) else ((some (([a1] : List Int) : List Int)).bind fun y276 => (if a0.size + (strOfNums y276).size ≤ 9223372036854775807 then ((int11_Is.f (a0 ++ (strOfNums y276))).bind fun t279 => (some (!t279))) else (none)))) else (some false)) = some r := by rw [if_pos rfl] at H; exact H
                    clear H
                    have H := H1
                    clear H1
                    by_cases c249 : t265.toList = t263.toList
                    ·rw [if_pos c249] at H
                     have c249b0 : (t265.toList == t263.toList) = true := beq_iff_eq.mpr c249
                     have c249b1 : (t265.toList != t263.toList) = false := bne_eq_false_iff_eq.mpr c249
                     clear c249
                     by_cases c250 : a1 = 111
                     ·rw [if_pos c250] at H
                      have c250b0 : (a1 == 111) = true := beq_iff_eq.mpr c250
                      have c250b1 : (a1 != 111) = false := bne_eq_false_iff_eq.mpr c250
                      clear c250
                      obtain rfl := Option.some.inj H
                      go_wp2_with (first | ((with_reducible refine gate_callee (f := 13) rfl ?_); refine goesL_ (some 91) rfl rfl Tryd.func13 (by kernel_rfl) rfl #[.string a0] rfl (by (try simp only [List.map_toArray, List.map_cons, List.map_nil]); first | done | rfl | (simp only [List.length_drop, List.length_take]; rfl)) ?_; (with_reducible refine (int11_Of.calls kj29 a0 t263 true _ ?side1 A69.out).mono ?_); (case side1 => exact Go.Proofs.YtkijneohhilboaaDoor.PIT.Tabs_below HG.out bl); rintro e w251 ⟨rfl, hb⟩; refine ⟨_, rfl, ?_⟩; have n0_ := Aside0.mk (below_step bl hb); clear HB; have HB := n0_; clear n0_; (try clear hb); (try clear hb2); (try clear hk); (try clear hi)) | ((with_reducible refine gate_callee (f := 13) rfl ?_); refine goesL_ (some 96) rfl rfl Tryd.func13 (by kernel_rfl) rfl #[.string t263] rfl (by (try simp only [List.map_toArray, List.map_cons, List.map_nil]); first | done | rfl | (simp only [List.length_drop, List.length_take]; rfl)) ?_; (with_reducible refine (int11_Of.calls kj29 t263 t265 true _ ?side1 A70.out).mono ?_); (case side1 => exact Go.Proofs.YtkijneohhilboaaDoor.PIT.Tabs_below HG.out bl); rintro e w252 ⟨rfl, hb⟩; refine ⟨_, rfl, ?_⟩; have n0_ := Aside0.mk (below_step bl hb); clear HB; have HB := n0_; clear n0_; (try clear hb); (try clear hb2); (try clear hk); (try clear hi)) | ((with_reducible refine gate_callee (f := 17) rfl ?_); refine goesL_ (some 100) rfl rfl Tryd.func17 (by kernel_rfl) rfl #[.int .u8 a1] rfl (by (try simp only [List.map_toArray, List.map_cons, List.map_nil]); first | done | rfl | (simp only [List.length_drop, List.length_take]; rfl)) ?_; (with_reducible refine (targumref4_IsDigit.calls a1 false _ A71.out).mono ?_); rintro e w' ⟨rfl, ⟨nd, rfl⟩⟩; refine ⟨_, rfl, ?_⟩))
                      go_ret
                      exact ⟨by first | rfl | (simp [errW_none, errW_some] <;> rfl) | (simp [*, errW_none, errW_some] <;> rfl), bl⟩
                     ·rw [if_neg c250] at H
                      have c250b0 : (a1 == 111) = false := beq_eq_false_iff_ne.mpr c250
                      have c250b1 : (a1 != 111) = true := bne_iff_ne.mpr c250
                      obtain ⟨y276, hy276⟩ : ∃ y_ : List Int, y_ = (([a1] : List Int)) := ⟨_, rfl⟩
                      replace H : (if a0.size + (strOfNums y276).size ≤ 9223372036854775807 then ((int11_Is.f (a0 ++ (strOfNums y276))).bind fun t279 => (some (!t279))) else (none)) = some r := by first | (rw [hy276]; with_reducible exact H) | (have H2_ := (Option.bind_some _ _).symm.trans H; rw [hy276]; with_reducible exact H2_) | (have H2_ := (Option.bind_some _ _).symm.trans H; with_reducible exact H2_) | with_reducible exact H | (rw [hy276]; exact H) | exact H
                      have Ny276 := Aside0.mk hy276
                      clear hy276
                      by_cases c253 : a0.size + (strOfNums y276).size ≤ 9223372036854775807
                      ·rw [if_pos c253] at H
                       have c253b0 := eq_true c253
                       have c253b1 : decide (a0.size + (strOfNums y276).size ≤ 9223372036854775807) = true := decide_eq_true c253
                       try have c253b2 : (9223372036854775807 < a0.size + (strOfNums y276).size) = False := eq_false (Nat.not_lt.2 c253)
                       replace H := Option.bind_eq_some_iff.mp H
                       obtain ⟨t279, A2540, H⟩ := H
                       replace H : (some (!t279)) = some r := H
                       have A254 := Aside0.mk A2540
                       clear A2540
                       obtain rfl := Option.some.inj H
                       go_wp2_with (first | ((with_reducible refine gate_callee (f := 13) rfl ?_); refine goesL_ (some 91) rfl rfl Tryd.func13 (by kernel_rfl) rfl #[.string a0] rfl (by (try simp only [List.map_toArray, List.map_cons, List.map_nil]); first | done | rfl | (simp only [List.length_drop, List.length_take]; rfl)) ?_; (with_reducible refine (int11_Of.calls kj29 a0 t263 true _ ?side1 A69.out).mono ?_); (case side1 => exact Go.Proofs.YtkijneohhilboaaDoor.PIT.Tabs_below HG.out bl); rintro e w255 ⟨rfl, hb⟩; refine ⟨_, rfl, ?_⟩; have n0_ := Aside0.mk (below_step bl hb); clear HB; have HB := n0_; clear n0_; (try clear hb); (try clear hb2); (try clear hk); (try clear hi)) | ((with_reducible refine gate_callee (f := 13) rfl ?_); refine goesL_ (some 96) rfl rfl Tryd.func13 (by kernel_rfl) rfl #[.string t263] rfl (by (try simp only [List.map_toArray, List.map_cons, List.map_nil]); first | done | rfl | (simp only [List.length_drop, List.length_take]; rfl)) ?_; (with_reducible refine (int11_Of.calls kj29 t263 t265 true _ ?side1 A70.out).mono ?_); (case side1 => exact Go.Proofs.YtkijneohhilboaaDoor.PIT.Tabs_below HG.out bl); rintro e w256 ⟨rfl, hb⟩; refine ⟨_, rfl, ?_⟩; have n0_ := Aside0.mk (below_step bl hb); clear HB; have HB := n0_; clear n0_; (try clear hb); (try clear hb2); (try clear hk); (try clear hi)) | ((with_reducible refine gate_callee (f := 17) rfl ?_); refine goesL_ (some 100) rfl rfl Tryd.func17 (by kernel_rfl) rfl #[.int .u8 a1] rfl (by (try simp only [List.map_toArray, List.map_cons, List.map_nil]); first | done | rfl | (simp only [List.length_drop, List.length_take]; rfl)) ?_; (with_reducible refine (targumref4_IsDigit.calls a1 false _ A71.out).mono ?_); rintro e w' ⟨rfl, ⟨nd, rfl⟩⟩; refine ⟨_, rfl, ?_⟩) | ((with_reducible refine gate_dst (N := 147) rfl ?_); (try (refine gate_guard (by rfl) ?_; dsimp only)); refine Kd.R_lit (Kd.int .u8) _ 5 ?hg (N := 147) ?hd (xs := ([a1] : List Int)) (inner := [.int .u8 a1]) (ok := fun _ => True) (okp := fun _ => True) ?hr ?hp (fun _ hk => hk) trivial (Below.refl _ _) (Nat.le_refl _) (by simp) ?_; (case hd => rfl); (case hg => rfl); (case hr => first | (go_simp; done) | (go_simp; rfl)); (case hp => exact (Reps.one (show Kd.M (Kd.int .u8) _ _ _ a1 [.int .u8 a1] from rfl) (Reps.none _ _))); intro v277 w257 ho258 hb hg_ hnew_; clear hg_ hnew_; (first | rw [← Ny276.out] at ho258 | (simp only [Int.reduceToNat] at ho258; rw [← Ny276.out] at ho258)); have n0_ := Aside0.mk (Kd.R_lower ho258 (below_size bl)); have n1_ := Aside0.mk (below_step bl hb); clear HB; have HO278 := n0_; have HB := n1_; clear n0_ n1_; clear hb ho258; have hcv259 := own_string (P := Tryd.prog) Tryd.underlying33 Tryd.underlying5 Tryd.underlying9 (Kd.own_of_R HO278.out)) | (go_at_call 16; (try (rename_i hK_; simp only [List.append] at hK_)); (with_reducible refine (int11_Is.calls (a0 ++ (strOfNums y276)) t279 _ A254.out).mono ?_); rintro e w260 ⟨rfl, hb⟩; have n0_ := Aside0.mk (Kd.R_below (by (with_reducible repeat (first | apply Kd.R_alloc | apply Kd.R_drewN | apply Kd.R_drew)); exact HO278.out) hb); have n1_ := Aside0.mk (below_step bl hb); clear HO278; clear HB; have HO278 := n0_; have HB := n1_; clear n0_ n1_; (try clear hb); (try clear hb2); (try clear hk); (try clear hi)))
                       go_ret
                       exact ⟨by first | rfl | (simp [errW_none, errW_some] <;> rfl) | (simp [*, errW_none, errW_some] <;> rfl), bl⟩
                      ·rw [if_neg c253] at H
                       exact absurd H (by simp)
                    ·rw [if_neg c249] at H
                     have c249b0 : (t265.toList == t263.toList) = false := beq_eq_false_iff_ne.mpr c249
                     have c249b1 : (t265.toList != t263.toList) = true := bne_iff_ne.mpr c249
                     obtain rfl := Option.some.inj H
                     go_wp2_with (first | ((with_reducible refine gate_callee (f := 13) rfl ?_); refine goesL_ (some 91) rfl rfl Tryd.func13 (by kernel_rfl) rfl #[.string a0] rfl (by (try simp only [List.map_toArray, List.map_cons, List.map_nil]); first | done | rfl | (simp only [List.length_drop, List.length_take]; rfl)) ?_; (with_reducible refine (int11_Of.calls kj29 a0 t263 true _ ?side1 A69.out).mono ?_); (case side1 => exact Go.Proofs.YtkijneohhilboaaDoor.PIT.Tabs_below HG.out bl); rintro e w261 ⟨rfl, hb⟩; refine ⟨_, rfl, ?_⟩; have n0_ := Aside0.mk (below_step bl hb); clear HB; have HB := n0_; clear n0_; (try clear hb); (try clear hb2); (try clear hk); (try clear hi)) | ((with_reducible refine gate_callee (f := 13) rfl ?_); refine goesL_ (some 96) rfl rfl Tryd.func13 (by kernel_rfl) rfl #[.string t263] rfl (by (try simp only [List.map_toArray, List.map_cons, List.map_nil]); first | done | rfl | (simp only [List.length_drop, List.length_take]; rfl)) ?_; (with_reducible refine (int11_Of.calls kj29 t263 t265 true _ ?side1 A70.out).mono ?_); (case side1 => exact Go.Proofs.YtkijneohhilboaaDoor.PIT.Tabs_below HG.out bl); rintro e w262 ⟨rfl, hb⟩; refine ⟨_, rfl, ?_⟩; have n0_ := Aside0.mk (below_step bl hb); clear HB; have HB := n0_; clear n0_; (try clear hb); (try clear hb2); (try clear hk); (try clear hi)) | ((with_reducible refine gate_callee (f := 17) rfl ?_); refine goesL_ (some 100) rfl rfl Tryd.func17 (by kernel_rfl) rfl #[.int .u8 a1] rfl (by (try simp only [List.map_toArray, List.map_cons, List.map_nil]); first | done | rfl | (simp only [List.length_drop, List.length_take]; rfl)) ?_; (with_reducible refine (targumref4_IsDigit.calls a1 false _ A71.out).mono ?_); rintro e w' ⟨rfl, ⟨nd, rfl⟩⟩; refine ⟨_, rfl, ?_⟩))
                     go_ret
                     exact ⟨by first | rfl | (simp [errW_none, errW_some] <;> rfl) | (simp [*, errW_none, errW_some] <;> rfl), bl⟩
                   ·replace c248 := Bool.eq_false_iff.mpr c248
                    subst c248
                    have H1 : (some false) = some r := by rw [if_neg (show ¬ (false = true) by decide)] at H; exact H
                    clear H
                    have H := H1
                    clear H1
                    obtain rfl := Option.some.inj H
                    go_wp2_with (first | ((with_reducible refine gate_callee (f := 13) rfl ?_); refine goesL_ (some 91) rfl rfl Tryd.func13 (by kernel_rfl) rfl #[.string a0] rfl (by (try simp only [List.map_toArray, List.map_cons, List.map_nil]); first | done | rfl | (simp only [List.length_drop, List.length_take]; rfl)) ?_; (with_reducible refine (int11_Of.calls kj29 a0 t263 true _ ?side1 A69.out).mono ?_); (case side1 => exact Go.Proofs.YtkijneohhilboaaDoor.PIT.Tabs_below HG.out bl); rintro e w263 ⟨rfl, hb⟩; refine ⟨_, rfl, ?_⟩; have n0_ := Aside0.mk (below_step bl hb); clear HB; have HB := n0_; clear n0_; (try clear hb); (try clear hb2); (try clear hk); (try clear hi)) | ((with_reducible refine gate_callee (f := 13) rfl ?_); refine goesL_ (some 96) rfl rfl Tryd.func13 (by kernel_rfl) rfl #[.string t263] rfl (by (try simp only [List.map_toArray, List.map_cons, List.map_nil]); first | done | rfl | (simp only [List.length_drop, List.length_take]; rfl)) ?_; (with_reducible refine (int11_Of.calls kj29 t263 t265 false _ ?side1 A70.out).mono ?_); (case side1 => exact Go.Proofs.YtkijneohhilboaaDoor.PIT.Tabs_below HG.out bl); rintro e w264 ⟨rfl, hb⟩; refine ⟨_, rfl, ?_⟩; have n0_ := Aside0.mk (below_step bl hb); clear HB; have HB := n0_; clear n0_; (try clear hb); (try clear hb2); (try clear hk); (try clear hi)) | ((with_reducible refine gate_callee (f := 17) rfl ?_); refine goesL_ (some 100) rfl rfl Tryd.func17 (by kernel_rfl) rfl #[.int .u8 a1] rfl (by (try simp only [List.map_toArray, List.map_cons, List.map_nil]); first | done | rfl | (simp only [List.length_drop, List.length_take]; rfl)) ?_; (with_reducible refine (targumref4_IsDigit.calls a1 false _ A71.out).mono ?_); rintro e w' ⟨rfl, ⟨nd, rfl⟩⟩; refine ⟨_, rfl, ?_⟩))
                    go_ret
                    exact ⟨by first | rfl | (simp [errW_none, errW_some] <;> rfl) | (simp [*, errW_none, errW_some] <;> rfl), bl⟩
                  ·replace c247 := Bool.eq_false_iff.mpr c247
                   subst c247
                   have H1 : (some false) = some r := by rw [if_neg (show ¬ (false = true) by decide)] at H; exact H
                   clear H
                   have H := H1
                   clear H1
                   obtain rfl := Option.some.inj H
                   go_wp2_with (first | ((with_reducible refine gate_callee (f := 13) rfl ?_); refine goesL_ (some 91) rfl rfl Tryd.func13 (by kernel_rfl) rfl #[.string a0] rfl (by (try simp only [List.map_toArray, List.map_cons, List.map_nil]); first | done | rfl | (simp only [List.length_drop, List.length_take]; rfl)) ?_; (with_reducible refine (int11_Of.calls kj29 a0 t263 false _ ?side1 A69.out).mono ?_); (case side1 => exact Go.Proofs.YtkijneohhilboaaDoor.PIT.Tabs_below HG.out bl); rintro e w265 ⟨rfl, hb⟩; refine ⟨_, rfl, ?_⟩; have n0_ := Aside0.mk (below_step bl hb); clear HB; have HB := n0_; clear n0_; (try clear hb); (try clear hb2); (try clear hk); (try clear hi)) | ((with_reducible refine gate_callee (f := 13) rfl ?_); refine goesL_ (some 96) rfl rfl Tryd.func13 (by kernel_rfl) rfl #[.string t263] rfl (by (try simp only [List.map_toArray, List.map_cons, List.map_nil]); first | done | rfl | (simp only [List.length_drop, List.length_take]; rfl)) ?_; (with_reducible refine (int11_Of.calls kj29 t263 t265 t266 _ ?side1 A70.out).mono ?_); (case side1 => exact Go.Proofs.YtkijneohhilboaaDoor.PIT.Tabs_below HG.out bl); rintro e w266 ⟨rfl, hb⟩; refine ⟨_, rfl, ?_⟩; have n0_ := Aside0.mk (below_step bl hb); clear HB; have HB := n0_; clear n0_; (try clear hb); (try clear hb2); (try clear hk); (try clear hi)) | ((with_reducible refine gate_callee (f := 17) rfl ?_); refine goesL_ (some 100) rfl rfl Tryd.func17 (by kernel_rfl) rfl #[.int .u8 a1] rfl (by (try simp only [List.map_toArray, List.map_cons, List.map_nil]); first | done | rfl | (simp only [List.length_drop, List.length_take]; rfl)) ?_; (with_reducible refine (targumref4_IsDigit.calls a1 false _ A71.out).mono ?_); rintro e w' ⟨rfl, ⟨nd, rfl⟩⟩; refine ⟨_, rfl, ?_⟩))
                   go_ret
                   exact ⟨by first | rfl | (simp [errW_none, errW_some] <;> rfl) | (simp [*, errW_none, errW_some] <;> rfl), bl⟩
              ·as_aux_lemma =>
               rw [if_neg c210] at H
               have c210b0 : decide (65 ≤ a1) = false := decide_eq_false c210
               clear c210
               by_cases c267 : a1 = 58
               ·rw [if_pos c267] at H
                have c267b0 : (a1 == 58) = true := beq_iff_eq.mpr c267
                have c267b1 : (a1 != 58) = false := bne_eq_false_iff_eq.mpr c267
                clear c267
                by_cases c268 : t264 = true
                ·subst c268
                 have H1 : (if t266 = true then (if t265.toList = t263.toList then (some true) else (some false)) else (some false)) = some r := by rw [if_pos rfl] at H; exact H
                 clear H
                 have H := H1
                 clear H1
                 by_cases c269 : t266 = true
                 ·subst c269
                  have H1 : (if t265.toList = t263.toList then (some true) else (some false)) = some r := by rw [if_pos rfl] at H; exact H
                  clear H
                  have H := H1
                  clear H1
                  by_cases c270 : t265.toList = t263.toList
                  ·rw [if_pos c270] at H
                   have c270b0 : (t265.toList == t263.toList) = true := beq_iff_eq.mpr c270
                   have c270b1 : (t265.toList != t263.toList) = false := bne_eq_false_iff_eq.mpr c270
                   clear c270
                   obtain rfl := Option.some.inj H
                   go_wp2_with (first | ((with_reducible refine gate_callee (f := 13) rfl ?_); refine goesL_ (some 91) rfl rfl Tryd.func13 (by kernel_rfl) rfl #[.string a0] rfl (by (try simp only [List.map_toArray, List.map_cons, List.map_nil]); first | done | rfl | (simp only [List.length_drop, List.length_take]; rfl)) ?_; (with_reducible refine (int11_Of.calls kj29 a0 t263 true _ ?side1 A69.out).mono ?_); (case side1 => exact Go.Proofs.YtkijneohhilboaaDoor.PIT.Tabs_below HG.out bl); rintro e w271 ⟨rfl, hb⟩; refine ⟨_, rfl, ?_⟩; have n0_ := Aside0.mk (below_step bl hb); clear HB; have HB := n0_; clear n0_; (try clear hb); (try clear hb2); (try clear hk); (try clear hi)) | ((with_reducible refine gate_callee (f := 13) rfl ?_); refine goesL_ (some 96) rfl rfl Tryd.func13 (by kernel_rfl) rfl #[.string t263] rfl (by (try simp only [List.map_toArray, List.map_cons, List.map_nil]); first | done | rfl | (simp only [List.length_drop, List.length_take]; rfl)) ?_; (with_reducible refine (int11_Of.calls kj29 t263 t265 true _ ?side1 A70.out).mono ?_); (case side1 => exact Go.Proofs.YtkijneohhilboaaDoor.PIT.Tabs_below HG.out bl); rintro e w272 ⟨rfl, hb⟩; refine ⟨_, rfl, ?_⟩; have n0_ := Aside0.mk (below_step bl hb); clear HB; have HB := n0_; clear n0_; (try clear hb); (try clear hb2); (try clear hk); (try clear hi)) | ((with_reducible refine gate_callee (f := 17) rfl ?_); refine goesL_ (some 100) rfl rfl Tryd.func17 (by kernel_rfl) rfl #[.int .u8 a1] rfl (by (try simp only [List.map_toArray, List.map_cons, List.map_nil]); first | done | rfl | (simp only [List.length_drop, List.length_take]; rfl)) ?_; (with_reducible refine (targumref4_IsDigit.calls a1 false _ A71.out).mono ?_); rintro e w' ⟨rfl, ⟨nd, rfl⟩⟩; refine ⟨_, rfl, ?_⟩))
                   go_ret
                   exact ⟨by first | rfl | (simp [errW_none, errW_some] <;> rfl) | (simp [*, errW_none, errW_some] <;> rfl), bl⟩
                  ·rw [if_neg c270] at H
                   have c270b0 : (t265.toList == t263.toList) = false := beq_eq_false_iff_ne.mpr c270
                   have c270b1 : (t265.toList != t263.toList) = true := bne_iff_ne.mpr c270
                   obtain rfl := Option.some.inj H
                   go_wp2_with (first | ((with_reducible refine gate_callee (f := 13) rfl ?_); refine goesL_ (some 91) rfl rfl Tryd.func13 (by kernel_rfl) rfl #[.string a0] rfl (by (try simp only [List.map_toArray, List.map_cons, List.map_nil]); first | done | rfl | (simp only [List.length_drop, List.length_take]; rfl)) ?_; (with_reducible refine (int11_Of.calls kj29 a0 t263 true _ ?side1 A69.out).mono ?_); (case side1 => exact Go.Proofs.YtkijneohhilboaaDoor.PIT.Tabs_below HG.out bl); rintro e w273 ⟨rfl, hb⟩; refine ⟨_, rfl, ?_⟩; have n0_ := Aside0.mk (below_step bl hb); clear HB; have HB := n0_; clear n0_; (try clear hb); (try clear hb2); (try clear hk); (try clear hi)) | ((with_reducible refine gate_callee (f := 13) rfl ?_); refine goesL_ (some 96) rfl rfl Tryd.func13 (by kernel_rfl) rfl #[.string t263] rfl (by (try simp only [List.map_toArray, List.map_cons, List.map_nil]); first | done | rfl | (simp only [List.length_drop, List.length_take]; rfl)) ?_; (with_reducible refine (int11_Of.calls kj29 t263 t265 true _ ?side1 A70.out).mono ?_); (case side1 => exact Go.Proofs.YtkijneohhilboaaDoor.PIT.Tabs_below HG.out bl); rintro e w274 ⟨rfl, hb⟩; refine ⟨_, rfl, ?_⟩; have n0_ := Aside0.mk (below_step bl hb); clear HB; have HB := n0_; clear n0_; (try clear hb); (try clear hb2); (try clear hk); (try clear hi)) | ((with_reducible refine gate_callee (f := 17) rfl ?_); refine goesL_ (some 100) rfl rfl Tryd.func17 (by kernel_rfl) rfl #[.int .u8 a1] rfl (by (try simp only [List.map_toArray, List.map_cons, List.map_nil]); first | done | rfl | (simp only [List.length_drop, List.length_take]; rfl)) ?_; (with_reducible refine (targumref4_IsDigit.calls a1 false _ A71.out).mono ?_); rintro e w' ⟨rfl, ⟨nd, rfl⟩⟩; refine ⟨_, rfl, ?_⟩))
                   go_ret
                   exact ⟨by first | rfl | (simp [errW_none, errW_some] <;> rfl) | (simp [*, errW_none, errW_some] <;> rfl), bl⟩
                 ·replace c269 := Bool.eq_false_iff.mpr c269
                  subst c269
                  have H1 : (some false) = some r := by rw [if_neg (show ¬ (false = true) by decide)] at H; exact H
                  clear H
                  have H := H1
                  clear H1
                  obtain rfl := Option.some.inj H
                  go_wp2_with (first | ((with_reducible refine gate_callee (f := 13) rfl ?_); refine goesL_ (some 91) rfl rfl Tryd.func13 (by kernel_rfl) rfl #[.string a0] rfl (by (try simp only [List.map_toArray, List.map_cons, List.map_nil]); first | done | rfl | (simp only [List.length_drop, List.length_take]; rfl)) ?_; (with_reducible refine (int11_Of.calls kj29 a0 t263 true _ ?side1 A69.out).mono ?_); (case side1 => exact Go.Proofs.YtkijneohhilboaaDoor.PIT.Tabs_below HG.out bl); rintro e w275 ⟨rfl, hb⟩; refine ⟨_, rfl, ?_⟩; have n0_ := Aside0.mk (below_step bl hb); clear HB; have HB := n0_; clear n0_; (try clear hb); (try clear hb2); (try clear hk); (try clear hi)) | ((with_reducible refine gate_callee (f := 13) rfl ?_); refine goesL_ (some 96) rfl rfl Tryd.func13 (by kernel_rfl) rfl #[.string t263] rfl (by (try simp only [List.map_toArray, List.map_cons, List.map_nil]); first | done | rfl | (simp only [List.length_drop, List.length_take]; rfl)) ?_; (with_reducible refine (int11_Of.calls kj29 t263 t265 false _ ?side1 A70.out).mono ?_); (case side1 => exact Go.Proofs.YtkijneohhilboaaDoor.PIT.Tabs_below HG.out bl); rintro e w276 ⟨rfl, hb⟩; refine ⟨_, rfl, ?_⟩; have n0_ := Aside0.mk (below_step bl hb); clear HB; have HB := n0_; clear n0_; (try clear hb); (try clear hb2); (try clear hk); (try clear hi)) | ((with_reducible refine gate_callee (f := 17) rfl ?_); refine goesL_ (some 100) rfl rfl Tryd.func17 (by kernel_rfl) rfl #[.int .u8 a1] rfl (by (try simp only [List.map_toArray, List.map_cons, List.map_nil]); first | done | rfl | (simp only [List.length_drop, List.length_take]; rfl)) ?_; (with_reducible refine (targumref4_IsDigit.calls a1 false _ A71.out).mono ?_); rintro e w' ⟨rfl, ⟨nd, rfl⟩⟩; refine ⟨_, rfl, ?_⟩))
                  go_ret
                  exact ⟨by first | rfl | (simp [errW_none, errW_some] <;> rfl) | (simp [*, errW_none, errW_some] <;> rfl), bl⟩
                ·replace c268 := Bool.eq_false_iff.mpr c268
                 subst c268
                 have H1 : (some false) = some r := by rw [if_neg (show ¬ (false = true) by decide)] at H; exact H
                 clear H
                 have H := H1
                 clear H1
                 obtain rfl := Option.some.inj H
                 go_wp2_with (first | ((with_reducible refine gate_callee (f := 13) rfl ?_); refine goesL_ (some 91) rfl rfl Tryd.func13 (by kernel_rfl) rfl #[.string a0] rfl (by (try simp only [List.map_toArray, List.map_cons, List.map_nil]); first | done | rfl | (simp only [List.length_drop, List.length_take]; rfl)) ?_; (with_reducible refine (int11_Of.calls kj29 a0 t263 false _ ?side1 A69.out).mono ?_); (case side1 => exact Go.Proofs.YtkijneohhilboaaDoor.PIT.Tabs_below HG.out bl); rintro e w277 ⟨rfl, hb⟩; refine ⟨_, rfl, ?_⟩; have n0_ := Aside0.mk (below_step bl hb); clear HB; have HB := n0_; clear n0_; (try clear hb); (try clear hb2); (try clear hk); (try clear hi)) | ((with_reducible refine gate_callee (f := 13) rfl ?_); refine goesL_ (some 96) rfl rfl Tryd.func13 (by kernel_rfl) rfl #[.string t263] rfl (by (try simp only [List.map_toArray, List.map_cons, List.map_nil]); first | done | rfl | (simp only [List.length_drop, List.length_take]; rfl)) ?_; (with_reducible refine (int11_Of.calls kj29 t263 t265 t266 _ ?side1 A70.out).mono ?_); (case side1 => exact Go.Proofs.YtkijneohhilboaaDoor.PIT.Tabs_below HG.out bl); rintro e w278 ⟨rfl, hb⟩; refine ⟨_, rfl, ?_⟩; have n0_ := Aside0.mk (below_step bl hb); clear HB; have HB := n0_; clear n0_; (try clear hb); (try clear hb2); (try clear hk); (try clear hi)) | ((with_reducible refine gate_callee (f := 17) rfl ?_); refine goesL_ (some 100) rfl rfl Tryd.func17 (by kernel_rfl) rfl #[.int .u8 a1] rfl (by (try simp only [List.map_toArray, List.map_cons, List.map_nil]); first | done | rfl | (simp only [List.length_drop, List.length_take]; rfl)) ?_; (with_reducible refine (targumref4_IsDigit.calls a1 false _ A71.out).mono ?_); rintro e w' ⟨rfl, ⟨nd, rfl⟩⟩; refine ⟨_, rfl, ?_⟩))
                 go_ret
                 exact ⟨by first | rfl | (simp [errW_none, errW_some] <;> rfl) | (simp [*, errW_none, errW_some] <;> rfl), bl⟩
               ·as_aux_lemma =>
                rw [if_neg c267] at H
                have c267b0 : (a1 == 58) = false := beq_eq_false_iff_ne.mpr c267
                have c267b1 : (a1 != 58) = true := bne_iff_ne.mpr c267
                by_cases c279 : a1 = 120
                ·rw [if_pos c279] at H
                 have c279b0 : (a1 == 120) = true := beq_iff_eq.mpr c279
                 have c279b1 : (a1 != 120) = false := bne_eq_false_iff_eq.mpr c279
                 clear c279
                 by_cases c280 : t264 = true
                 ·subst c280
                  have H1 : (if t266 = true then (if t265.toList = t263.toList then (some true) else (some false)) else (some false)) = some r := by rw [if_pos rfl] at H; exact H
                  clear H
                  have H := H1
                  clear H1
                  by_cases c281 : t266 = true
                  ·subst c281
                   have H1 : (if t265.toList = t263.toList then (some true) else (some false)) = some r := by rw [if_pos rfl] at H; exact H
                   clear H
                   have H := H1
                   clear H1
                   by_cases c282 : t265.toList = t263.toList
                   ·rw [if_pos c282] at H
                    have c282b0 : (t265.toList == t263.toList) = true := beq_iff_eq.mpr c282
                    have c282b1 : (t265.toList != t263.toList) = false := bne_eq_false_iff_eq.mpr c282
                    clear c282
                    obtain rfl := Option.some.inj H
                    go_wp2_with (first | ((with_reducible refine gate_callee (f := 13) rfl ?_); refine goesL_ (some 91) rfl rfl Tryd.func13 (by kernel_rfl) rfl #[.string a0] rfl (by (try simp only [List.map_toArray, List.map_cons, List.map_nil]); first | done | rfl | (simp only [List.length_drop, List.length_take]; rfl)) ?_; (with_reducible refine (int11_Of.calls kj29 a0 t263 true _ ?side1 A69.out).mono ?_); (case side1 => exact Go.Proofs.YtkijneohhilboaaDoor.PIT.Tabs_below HG.out bl); rintro e w283 ⟨rfl, hb⟩; refine ⟨_, rfl, ?_⟩; have n0_ := Aside0.mk (below_step bl hb); clear HB; have HB := n0_; clear n0_; (try clear hb); (try clear hb2); (try clear hk); (try clear hi)) | ((with_reducible refine gate_callee (f := 13) rfl ?_); refine goesL_ (some 96) rfl rfl Tryd.func13 (by kernel_rfl) rfl #[.string t263] rfl (by (try simp only [List.map_toArray, List.map_cons, List.map_nil]); first | done | rfl | (simp only [List.length_drop, List.length_take]; rfl)) ?_; (with_reducible refine (int11_Of.calls kj29 t263 t265 true _ ?side1 A70.out).mono ?_); (case side1 => exact Go.Proofs.YtkijneohhilboaaDoor.PIT.Tabs_below HG.out bl); rintro e w284 ⟨rfl, hb⟩; refine ⟨_, rfl, ?_⟩; have n0_ := Aside0.mk (below_step bl hb); clear HB; have HB := n0_; clear n0_; (try clear hb); (try clear hb2); (try clear hk); (try clear hi)) | ((with_reducible refine gate_callee (f := 17) rfl ?_); refine goesL_ (some 100) rfl rfl Tryd.func17 (by kernel_rfl) rfl #[.int .u8 a1] rfl (by (try simp only [List.map_toArray, List.map_cons, List.map_nil]); first | done | rfl | (simp only [List.length_drop, List.length_take]; rfl)) ?_; (with_reducible refine (targumref4_IsDigit.calls a1 false _ A71.out).mono ?_); rintro e w' ⟨rfl, ⟨nd, rfl⟩⟩; refine ⟨_, rfl, ?_⟩))
                    go_ret
                    exact ⟨by first | rfl | (simp [errW_none, errW_some] <;> rfl) | (simp [*, errW_none, errW_some] <;> rfl), bl⟩
                   ·rw [if_neg c282] at H
                    have c282b0 : (t265.toList == t263.toList) = false := beq_eq_false_iff_ne.mpr c282
                    have c282b1 : (t265.toList != t263.toList) = true := bne_iff_ne.mpr c282
                    obtain rfl := Option.some.inj H
                    go_wp2_with (first | ((with_reducible refine gate_callee (f := 13) rfl ?_); refine goesL_ (some 91) rfl rfl Tryd.func13 (by kernel_rfl) rfl #[.string a0] rfl (by (try simp only [List.map_toArray, List.map_cons, List.map_nil]); first | done | rfl | (simp only [List.length_drop, List.length_take]; rfl)) ?_; (with_reducible refine (int11_Of.calls kj29 a0 t263 true _ ?side1 A69.out).mono ?_); (case side1 => exact Go.Proofs.YtkijneohhilboaaDoor.PIT.Tabs_below HG.out bl); rintro e w285 ⟨rfl, hb⟩; refine ⟨_, rfl, ?_⟩; have n0_ := Aside0.mk (below_step bl hb); clear HB; have HB := n0_; clear n0_; (try clear hb); (try clear hb2); (try clear hk); (try clear hi)) | ((with_reducible refine gate_callee (f := 13) rfl ?_); refine goesL_ (some 96) rfl rfl Tryd.func13 (by kernel_rfl) rfl #[.string t263] rfl (by (try simp only [List.map_toArray, List.map_cons, List.map_nil]); first | done | rfl | (simp only [List.length_drop, List.length_take]; rfl)) ?_; (with_reducible refine (int11_Of.calls kj29 t263 t265 true _ ?side1 A70.out).mono ?_); (case side1 => exact Go.Proofs.YtkijneohhilboaaDoor.PIT.Tabs_below HG.out bl); rintro e w286 ⟨rfl, hb⟩; refine ⟨_, rfl, ?_⟩; have n0_ := Aside0.mk (below_step bl hb); clear HB; have HB := n0_; clear n0_; (try clear hb); (try clear hb2); (try clear hk); (try clear hi)) | ((with_reducible refine gate_callee (f := 17) rfl ?_); refine goesL_ (some 100) rfl rfl Tryd.func17 (by kernel_rfl) rfl #[.int .u8 a1] rfl (by (try simp only [List.map_toArray, List.map_cons, List.map_nil]); first | done | rfl | (simp only [List.length_drop, List.length_take]; rfl)) ?_; (with_reducible refine (targumref4_IsDigit.calls a1 false _ A71.out).mono ?_); rintro e w' ⟨rfl, ⟨nd, rfl⟩⟩; refine ⟨_, rfl, ?_⟩))
                    go_ret
                    exact ⟨by first | rfl | (simp [errW_none, errW_some] <;> rfl) | (simp [*, errW_none, errW_some] <;> rfl), bl⟩
                  ·replace c281 := Bool.eq_false_iff.mpr c281
                   subst c281
                   have H1 : (some false) = some r := by rw [if_neg (show ¬ (false = true) by decide)] at H; exact H
                   clear H
                   have H := H1
                   clear H1
                   obtain rfl := Option.some.inj H
                   go_wp2_with (first | ((with_reducible refine gate_callee (f := 13) rfl ?_); refine goesL_ (some 91) rfl rfl Tryd.func13 (by kernel_rfl) rfl #[.string a0] rfl (by (try simp only [List.map_toArray, List.map_cons, List.map_nil]); first | done | rfl | (simp only [List.length_drop, List.length_take]; rfl)) ?_; (with_reducible refine (int11_Of.calls kj29 a0 t263 true _ ?side1 A69.out).mono ?_); (case side1 => exact Go.Proofs.YtkijneohhilboaaDoor.PIT.Tabs_below HG.out bl); rintro e w287 ⟨rfl, hb⟩; refine ⟨_, rfl, ?_⟩; have n0_ := Aside0.mk (below_step bl hb); clear HB; have HB := n0_; clear n0_; (try clear hb); (try clear hb2); (try clear hk); (try clear hi)) | ((with_reducible refine gate_callee (f := 13) rfl ?_); refine goesL_ (some 96) rfl rfl Tryd.func13 (by kernel_rfl) rfl #[.string t263] rfl (by (try simp only [List.map_toArray, List.map_cons, List.map_nil]); first | done | rfl | (simp only [List.length_drop, List.length_take]; rfl)) ?_; (with_reducible refine (int11_Of.calls kj29 t263 t265 false _ ?side1 A70.out).mono ?_); (case side1 => exact Go.Proofs.YtkijneohhilboaaDoor.PIT.Tabs_below HG.out bl); rintro e w288 ⟨rfl, hb⟩; refine ⟨_, rfl, ?_⟩; have n0_ := Aside0.mk (below_step bl hb); clear HB; have HB := n0_; clear n0_; (try clear hb); (try clear hb2); (try clear hk); (try clear hi)) | ((with_reducible refine gate_callee (f := 17) rfl ?_); refine goesL_ (some 100) rfl rfl Tryd.func17 (by kernel_rfl) rfl #[.int .u8 a1] rfl (by (try simp only [List.map_toArray, List.map_cons, List.map_nil]); first | done | rfl | (simp only [List.length_drop, List.length_take]; rfl)) ?_; (with_reducible refine (targumref4_IsDigit.calls a1 false _ A71.out).mono ?_); rintro e w' ⟨rfl, ⟨nd, rfl⟩⟩; refine ⟨_, rfl, ?_⟩))
                   go_ret
                   exact ⟨by first | rfl | (simp [errW_none, errW_some] <;> rfl) | (simp [*, errW_none, errW_some] <;> rfl), bl⟩
                 ·replace c280 := Bool.eq_false_iff.mpr c280
                  subst c280
                  have H1 : (some false) = some r := by rw [if_neg (show ¬ (false = true) by decide)] at H; exact H
                  clear H
                  have H := H1
                  clear H1
                  obtain rfl := Option.some.inj H
                  go_wp2_with (first | ((with_reducible refine gate_callee (f := 13) rfl ?_); refine goesL_ (some 91) rfl rfl Tryd.func13 (by kernel_rfl) rfl #[.string a0] rfl (by (try simp only [List.map_toArray, List.map_cons, List.map_nil]); first | done | rfl | (simp only [List.length_drop, List.length_take]; rfl)) ?_; (with_reducible refine (int11_Of.calls kj29 a0 t263 false _ ?side1 A69.out).mono ?_); (case side1 => exact Go.Proofs.YtkijneohhilboaaDoor.PIT.Tabs_below HG.out bl); rintro e w289 ⟨rfl, hb⟩; refine ⟨_, rfl, ?_⟩; have n0_ := Aside0.mk (below_step bl hb); clear HB; have HB := n0_; clear n0_; (try clear hb); (try clear hb2); (try clear hk); (try clear hi)) | ((with_reducible refine gate_callee (f := 13) rfl ?_); refine goesL_ (some 96) rfl rfl Tryd.func13 (by kernel_rfl) rfl #[.string t263] rfl (by (try simp only [List.map_toArray, List.map_cons, List.map_nil]); first | done | rfl | (simp only [List.length_drop, List.length_take]; rfl)) ?_; (with_reducible refine (int11_Of.calls kj29 t263 t265 t266 _ ?side1 A70.out).mono ?_); (case side1 => exact Go.Proofs.YtkijneohhilboaaDoor.PIT.Tabs_below HG.out bl); rintro e w290 ⟨rfl, hb⟩; refine ⟨_, rfl, ?_⟩; have n0_ := Aside0.mk (below_step bl hb); clear HB; have HB := n0_; clear n0_; (try clear hb); (try clear hb2); (try clear hk); (try clear hi)) | ((with_reducible refine gate_callee (f := 17) rfl ?_); refine goesL_ (some 100) rfl rfl Tryd.func17 (by kernel_rfl) rfl #[.int .u8 a1] rfl (by (try simp only [List.map_toArray, List.map_cons, List.map_nil]); first | done | rfl | (simp only [List.length_drop, List.length_take]; rfl)) ?_; (with_reducible refine (targumref4_IsDigit.calls a1 false _ A71.out).mono ?_); rintro e w' ⟨rfl, ⟨nd, rfl⟩⟩; refine ⟨_, rfl, ?_⟩))
                  go_ret
                  exact ⟨by first | rfl | (simp [errW_none, errW_some] <;> rfl) | (simp [*, errW_none, errW_some] <;> rfl), bl⟩
                ·as_aux_lemma =>
                 rw [if_neg c279] at H
                 have c279b0 : (a1 == 120) = false := beq_eq_false_iff_ne.mpr c279
                 have c279b1 : (a1 != 120) = true := bne_iff_ne.mpr c279
                 by_cases c291 : t264 = true
                 ·as_aux_lemma =>
                  subst c291
                  have H1 : (if t266 = true then (if t265.toList = t263.toList then (if a1 = 111 then (some true) else ((some (([a1] : List Int) : List Int)).bind fun y280 => (if a0.size + (strOfNums y280).size ≤ 9223372036854775807 then ((int11_Is.f (a0 ++ (strOfNums y280))).bind fun t283 => (some (!t283))) else (none)))) else (some false)) else (some false)) = some r := by rw [if_pos rfl] at H; exact H
                  clear H
                  have H := H1
                  clear H1
                  by_cases c292 : t266 = true
                  ·subst c292
                   have H1 : (if t265.toList = t263.toList then (if a1 = 111 then (some true) else ((some (([a1] : List Int) : List Int)).bind fun y280 => (if a0.size + (strOfNums y280).size ≤ 9223372036854775807 then ((int11_Is.f (a0 ++ (strOfNums y280))).bind fun t283 => (some (!t283))) else (none)))) else (some false)) = some r := by rw [if_pos rfl] at H; exact H
                   clear H
                   have H := H1
                   clear H1
                   by_cases c293 : t265.toList = t263.toList
                   ·rw [if_pos c293] at H
                    have c293b0 : (t265.toList == t263.toList) = true := beq_iff_eq.mpr c293
                    have c293b1 : (t265.toList != t263.toList) = false := bne_eq_false_iff_eq.mpr c293
                    clear c293
                    by_cases c294 : a1 = 111
                    ·rw [if_pos c294] at H
                     have c294b0 : (a1 == 111) = true := beq_iff_eq.mpr c294
                     have c294b1 : (a1 != 111) = false := bne_eq_false_iff_eq.mpr c294
                     clear c294
                     obtain rfl := Option.some.inj H
                     go_wp2_with (first | ((with_reducible refine gate_callee (f := 13) rfl ?_); refine goesL_ (some 91) rfl rfl Tryd.func13 (by kernel_rfl) rfl #[.string a0] rfl (by (try simp only [List.map_toArray, List.map_cons, List.map_nil]); first | done | rfl | (simp only [List.length_drop, List.length_take]; rfl)) ?_; (with_reducible refine (int11_Of.calls kj29 a0 t263 true _ ?side1 A69.out).mono ?_); (case side1 => exact Go.Proofs.YtkijneohhilboaaDoor.PIT.Tabs_below HG.out bl); rintro e w295 ⟨rfl, hb⟩; refine ⟨_, rfl, ?_⟩; have n0_ := Aside0.mk (below_step bl hb); clear HB; have HB := n0_; clear n0_; (try clear hb); (try clear hb2); (try clear hk); (try clear hi)) | ((with_reducible refine gate_callee (f := 13) rfl ?_); refine goesL_ (some 96) rfl rfl Tryd.func13 (by kernel_rfl) rfl #[.string t263] rfl (by (try simp only [List.map_toArray, List.map_cons, List.map_nil]); first | done | rfl | (simp only [List.length_drop, List.length_take]; rfl)) ?_; (with_reducible refine (int11_Of.calls kj29 t263 t265 true _ ?side1 A70.out).mono ?_); (case side1 => exact Go.Proofs.YtkijneohhilboaaDoor.PIT.Tabs_below HG.out bl); rintro e w296 ⟨rfl, hb⟩; refine ⟨_, rfl, ?_⟩; have n0_ := Aside0.mk (below_step bl hb); clear HB; have HB := n0_; clear n0_; (try clear hb); (try clear hb2); (try clear hk); (try clear hi)) | ((with_reducible refine gate_callee (f := 17) rfl ?_); refine goesL_ (some 100) rfl rfl Tryd.func17 (by kernel_rfl) rfl #[.int .u8 a1] rfl (by (try simp only [List.map_toArray, List.map_cons, List.map_nil]); first | done | rfl | (simp only [List.length_drop, List.length_take]; rfl)) ?_; (with_reducible refine (targumref4_IsDigit.calls a1 false _ A71.out).mono ?_); rintro e w' ⟨rfl, ⟨nd, rfl⟩⟩; refine ⟨_, rfl, ?_⟩))
                     go_ret
                     exact ⟨by first | rfl | (simp [errW_none, errW_some] <;> rfl) | (simp [*, errW_none, errW_some] <;> rfl), bl⟩
                    ·rw [if_neg c294] at H
                     have c294b0 : (a1 == 111) = false := beq_eq_false_iff_ne.mpr c294
                     have c294b1 : (a1 != 111) = true := bne_iff_ne.mpr c294
                     obtain ⟨y280, hy280⟩ : ∃ y_ : List Int, y_ = (([a1] : List Int)) := ⟨_, rfl⟩
                     replace H : (if a0.size + (strOfNums y280).size ≤ 9223372036854775807 then ((int11_Is.f (a0 ++ (strOfNums y280))).bind fun t283 => (some (!t283))) else (none)) = some r := by first | (rw [hy280]; with_reducible exact H) | (have H2_ := (Option.bind_some _ _).symm.trans H; rw [hy280]; with_reducible exact H2_) | (have H2_ := (Option.bind_some _ _).symm.trans H; with_reducible exact H2_) | with_reducible exact H | (rw [hy280]; exact H) | exact H
                     have Ny280 := Aside0.mk hy280
                     clear hy280
                     by_cases c297 : a0.size + (strOfNums y280).size ≤ 9223372036854775807
                     ·rw [if_pos c297] at H
                      have c297b0 := eq_true c297
                      have c297b1 : decide (a0.size + (strOfNums y280).size ≤ 9223372036854775807) = true := decide_eq_true c297
                      try have c297b2 : (9223372036854775807 < a0.size + (strOfNums y280).size) = False := eq_false (Nat.not_lt.2 c297)
                      replace H := Option.bind_eq_some_iff.mp H
                      obtain ⟨t283, A2980, H⟩ := H
                      replace H : (some (!t283)) = some r := H
                      have A298 := Aside0.mk A2980
                      clear A2980
                      obtain rfl := Option.some.inj H
                      go_wp2_with (first | ((with_reducible refine gate_callee (f := 13) rfl ?_); refine goesL_ (some 91) rfl rfl Tryd.func13 (by kernel_rfl) rfl #[.string a0] rfl (by (try simp only [List.map_toArray, List.map_cons, List.map_nil]); first | done | rfl | (simp only [List.length_drop, List.length_take]; rfl)) ?_; (with_reducible refine (int11_Of.calls kj29 a0 t263 true _ ?side1 A69.out).mono ?_); (case side1 => exact Go.Proofs.YtkijneohhilboaaDoor.PIT.Tabs_below HG.out bl); rintro e w299 ⟨rfl, hb⟩; refine ⟨_, rfl, ?_⟩; have n0_ := Aside0.mk (below_step bl hb); clear HB; have HB := n0_; clear n0_; (try clear hb); (try clear hb2); (try clear hk); (try clear hi)) | ((with_reducible refine gate_callee (f := 13) rfl ?_); refine goesL_ (some 96) rfl rfl Tryd.func13 (by kernel_rfl) rfl #[.string t263] rfl (by (try simp only [List.map_toArray, List.map_cons, List.map_nil]); first | done | rfl | (simp only [List.length_drop, List.length_take]; rfl)) ?_; (with_reducible refine (int11_Of.calls kj29 t263 t265 true _ ?side1 A70.out).mono ?_); (case side1 => exact Go.Proofs.YtkijneohhilboaaDoor.PIT.Tabs_below HG.out bl); rintro e w300 ⟨rfl, hb⟩; refine ⟨_, rfl, ?_⟩; have n0_ := Aside0.mk (below_step bl hb); clear HB; have HB := n0_; clear n0_; (try clear hb); (try clear hb2); (try clear hk); (try clear hi)) | ((with_reducible refine gate_callee (f := 17) rfl ?_); refine goesL_ (some 100) rfl rfl Tryd.func17 (by kernel_rfl) rfl #[.int .u8 a1] rfl (by (try simp only [List.map_toArray, List.map_cons, List.map_nil]); first | done | rfl | (simp only [List.length_drop, List.length_take]; rfl)) ?_; (with_reducible refine (targumref4_IsDigit.calls a1 false _ A71.out).mono ?_); rintro e w' ⟨rfl, ⟨nd, rfl⟩⟩; refine ⟨_, rfl, ?_⟩) | ((with_reducible refine gate_dst (N := 147) rfl ?_); (try (refine gate_guard (by rfl) ?_; dsimp only)); refine Kd.R_lit (Kd.int .u8) _ 5 ?hg (N := 147) ?hd (xs := ([a1] : List Int)) (inner := [.int .u8 a1]) (ok := fun _ => True) (okp := fun _ => True) ?hr ?hp (fun _ hk => hk) trivial (Below.refl _ _) (Nat.le_refl _) (by simp) ?_; (case hd => rfl); (case hg => rfl); (case hr => first | (go_simp; done) | (go_simp; rfl)); (case hp => exact (Reps.one (show Kd.M (Kd.int .u8) _ _ _ a1 [.int .u8 a1] from rfl) (Reps.none _ _))); intro v281 w301 ho302 hb hg_ hnew_; clear hg_ hnew_; (first | rw [← Ny280.out] at ho302 | (simp only [Int.reduceToNat] at ho302; rw [← Ny280.out] at ho302)); have n0_ := Aside0.mk (Kd.R_lower ho302 (below_size bl)); have n1_ := Aside0.mk (below_step bl hb); clear HB; have HO282 := n0_; have HB := n1_; clear n0_ n1_; clear hb ho302; have hcv303 := own_string (P := Tryd.prog) Tryd.underlying33 Tryd.underlying5 Tryd.underlying9 (Kd.own_of_R HO282.out)) | (go_at_call 16; (try (rename_i hK_; simp only [List.append] at hK_)); (with_reducible refine (int11_Is.calls (a0 ++ (strOfNums y280)) t283 _ A298.out).mono ?_); rintro e w304 ⟨rfl, hb⟩; have n0_ := Aside0.mk (Kd.R_below (by (with_reducible repeat (first | apply Kd.R_alloc | apply Kd.R_drewN | apply Kd.R_drew)); exact HO282.out) hb); have n1_ := Aside0.mk (below_step bl hb); clear HO282; clear HB; have HO282 := n0_; have HB := n1_; clear n0_ n1_; (try clear hb); (try clear hb2); (try clear hk); (try clear hi)))
                      go_ret
                      exact ⟨by first | rfl | (simp [errW_none, errW_some] <;> rfl) | (simp [*, errW_none, errW_some] <;> rfl), bl⟩
                     ·rw [if_neg c297] at H
                      exact absurd H (by simp)
                   ·rw [if_neg c293] at H
                    have c293b0 : (t265.toList == t263.toList) = false := beq_eq_false_iff_ne.mpr c293
                    have c293b1 : (t265.toList != t263.toList) = true := bne_iff_ne.mpr c293
                    obtain rfl := Option.some.inj H
                    go_wp2_with (first | ((with_reducible refine gate_callee (f := 13) rfl ?_); refine goesL_ (some 91) rfl rfl Tryd.func13 (by kernel_rfl) rfl #[.string a0] rfl (by (try simp only [List.map_toArray, List.map_cons, List.map_nil]); first | done | rfl | (simp only [List.length_drop, List.length_take]; rfl)) ?_; (with_reducible refine (int11_Of.calls kj29 a0 t263 true _ ?side1 A69.out).mono ?_); (case side1 => exact Go.Proofs.YtkijneohhilboaaDoor.PIT.Tabs_below HG.out bl); rintro e w305 ⟨rfl, hb⟩; refine ⟨_, rfl, ?_⟩; have n0_ := Aside0.mk (below_step bl hb); clear HB; have HB := n0_; clear n0_; (try clear hb); (try clear hb2); (try clear hk); (try clear hi)) | ((with_reducible refine gate_callee (f := 13) rfl ?_); refine goesL_ (some 96) rfl rfl Tryd.func13 (by kernel_rfl) rfl #[.string t263] rfl (by (try simp only [List.map_toArray, List.map_cons, List.map_nil]); first | done | rfl | (simp only [List.length_drop, List.length_take]; rfl)) ?_; (with_reducible refine (int11_Of.calls kj29 t263 t265 true _ ?side1 A70.out).mono ?_); (case side1 => exact Go.Proofs.YtkijneohhilboaaDoor.PIT.Tabs_below HG.out bl); rintro e w306 ⟨rfl, hb⟩; refine ⟨_, rfl, ?_⟩; have n0_ := Aside0.mk (below_step bl hb); clear HB; have HB := n0_; clear n0_; (try clear hb); (try clear hb2); (try clear hk); (try clear hi)) | ((with_reducible refine gate_callee (f := 17) rfl ?_); refine goesL_ (some 100) rfl rfl Tryd.func17 (by kernel_rfl) rfl #[.int .u8 a1] rfl (by (try simp only [List.map_toArray, List.map_cons, List.map_nil]); first | done | rfl | (simp only [List.length_drop, List.length_take]; rfl)) ?_; (with_reducible refine (targumref4_IsDigit.calls a1 false _ A71.out).mono ?_); rintro e w' ⟨rfl, ⟨nd, rfl⟩⟩; refine ⟨_, rfl, ?_⟩))
                    go_ret
                    exact ⟨by first | rfl | (simp [errW_none, errW_some] <;> rfl) | (simp [*, errW_none, errW_some] <;> rfl), bl⟩
                  ·replace c292 := Bool.eq_false_iff.mpr c292
                   subst c292
                   have H1 : (some false) = some r := by rw [if_neg (show ¬ (false = true) by decide)] at H; exact H
                   clear H
                   have H := H1
                   clear H1
                   obtain rfl := Option.some.inj H
                   go_wp2_with (first | ((with_reducible refine gate_callee (f := 13) rfl ?_); refine goesL_ (some 91) rfl rfl Tryd.func13 (by kernel_rfl) rfl #[.string a0] rfl (by (try simp only [List.map_toArray, List.map_cons, List.map_nil]); first | done | rfl | (simp only [List.length_drop, List.length_take]; rfl)) ?_; (with_reducible refine (int11_Of.calls kj29 a0 t263 true _ ?side1 A69.out).mono ?_); (case side1 => exact Go.Proofs.YtkijneohhilboaaDoor.PIT.Tabs_below HG.out bl); rintro e w307 ⟨rfl, hb⟩; refine ⟨_, rfl, ?_⟩; have n0_ := Aside0.mk (below_step bl hb); clear HB; have HB := n0_; clear n0_; (try clear hb); (try clear hb2); (try clear hk); (try clear hi)) | ((with_reducible refine gate_callee (f := 13) rfl ?_); refine goesL_ (some 96) rfl rfl Tryd.func13 (by kernel_rfl) rfl #[.string t263] rfl (by (try simp only [List.map_toArray, List.map_cons, List.map_nil]); first | done | rfl | (simp only [List.length_drop, List.length_take]; rfl)) ?_; (with_reducible refine (int11_Of.calls kj29 t263 t265 false _ ?side1 A70.out).mono ?_); (case side1 => exact Go.Proofs.YtkijneohhilboaaDoor.PIT.Tabs_below HG.out bl); rintro e w308 ⟨rfl, hb⟩; refine ⟨_, rfl, ?_⟩; have n0_ := Aside0.mk (below_step bl hb); clear HB; have HB := n0_; clear n0_; (try clear hb); (try clear hb2); (try clear hk); (try clear hi)) | ((with_reducible refine gate_callee (f := 17) rfl ?_); refine goesL_ (some 100) rfl rfl Tryd.func17 (by kernel_rfl) rfl #[.int .u8 a1] rfl (by (try simp only [List.map_toArray, List.map_cons, List.map_nil]); first | done | rfl | (simp only [List.length_drop, List.length_take]; rfl)) ?_; (with_reducible refine (targumref4_IsDigit.calls a1 false _ A71.out).mono ?_); rintro e w' ⟨rfl, ⟨nd, rfl⟩⟩; refine ⟨_, rfl, ?_⟩))
                   go_ret
                   exact ⟨by first | rfl | (simp [errW_none, errW_some] <;> rfl) | (simp [*, errW_none, errW_some] <;> rfl), bl⟩
                 ·replace c291 := Bool.eq_false_iff.mpr c291
                  subst c291
                  have H1 : (some false) = some r := by rw [if_neg (show ¬ (false = true) by decide)] at H; exact H
                  clear H
                  have H := H1
                  clear H1
                  obtain rfl := Option.some.inj H
                  go_wp2_with (first | ((with_reducible refine gate_callee (f := 13) rfl ?_); refine goesL_ (some 91) rfl rfl Tryd.func13 (by kernel_rfl) rfl #[.string a0] rfl (by (try simp only [List.map_toArray, List.map_cons, List.map_nil]); first | done | rfl | (simp only [List.length_drop, List.length_take]; rfl)) ?_; (with_reducible refine (int11_Of.calls kj29 a0 t263 false _ ?side1 A69.out).mono ?_); (case side1 => exact Go.Proofs.YtkijneohhilboaaDoor.PIT.Tabs_below HG.out bl); rintro e w309 ⟨rfl, hb⟩; refine ⟨_, rfl, ?_⟩; have n0_ := Aside0.mk (below_step bl hb); clear HB; have HB := n0_; clear n0_; (try clear hb); (try clear hb2); (try clear hk); (try clear hi)) | ((with_reducible refine gate_callee (f := 13) rfl ?_); refine goesL_ (some 96) rfl rfl Tryd.func13 (by kernel_rfl) rfl #[.string t263] rfl (by (try simp only [List.map_toArray, List.map_cons, List.map_nil]); first | done | rfl | (simp only [List.length_drop, List.length_take]; rfl)) ?_; (with_reducible refine (int11_Of.calls kj29 t263 t265 t266 _ ?side1 A70.out).mono ?_); (case side1 => exact Go.Proofs.YtkijneohhilboaaDoor.PIT.Tabs_below HG.out bl); rintro e w310 ⟨rfl, hb⟩; refine ⟨_, rfl, ?_⟩; have n0_ := Aside0.mk (below_step bl hb); clear HB; have HB := n0_; clear n0_; (try clear hb); (try clear hb2); (try clear hk); (try clear hi)) | ((with_reducible refine gate_callee (f := 17) rfl ?_); refine goesL_ (some 100) rfl rfl Tryd.func17 (by kernel_rfl) rfl #[.int .u8 a1] rfl (by (try simp only [List.map_toArray, List.map_cons, List.map_nil]); first | done | rfl | (simp only [List.length_drop, List.length_take]; rfl)) ?_; (with_reducible refine (targumref4_IsDigit.calls a1 false _ A71.out).mono ?_); rintro e w' ⟨rfl, ⟨nd, rfl⟩⟩; refine ⟨_, rfl, ?_⟩))
                  go_ret
                  exact ⟨by first | rfl | (simp [errW_none, errW_some] <;> rfl) | (simp [*, errW_none, errW_some] <;> rfl), bl⟩
 ·replace c4 := Bool.eq_false_iff.mpr c4
  subst c4
  have H1 : (some false) = some r := by rw [if_neg (show ¬ (false = true) by decide)] at H; exact H
  clear H
  have H := H1
  clear H1
  obtain rfl := Option.some.inj H
  go_enter Tryd.func7, Tryd.ntmps7
  go_wp2_with (first | ((with_reducible refine gate_callee (f := 10) rfl ?_); refine goesL_ (some 11) rfl rfl Tryd.func10 (by kernel_rfl) rfl #[] rfl (by (try simp only [List.map_toArray, List.map_cons, List.map_nil]); first | done | rfl | (simp only [List.length_drop, List.length_take]; rfl)) ?_; (with_reducible refine (targumlaw6_known.calls k  false _ ?side1 A3.out).mono ?_); (case side1 => exact Go.Proofs.YtkijneohhilboaaDoor.PIT.Tabs_below HG.out bl); rintro e w311 ⟨rfl, hb⟩; refine ⟨_, rfl, ?_⟩; have n0_ := Aside0.mk (below_step bl hb); clear HB; have HB := n0_; clear n0_; (try clear hb); (try clear hb2); (try clear hk); (try clear hi)))
  go_ret
  exact ⟨by first | rfl | (simp [errW_none, errW_some] <;> rfl) | (simp [*, errW_none, errW_some] <;> rfl), bl⟩

/-- THE ONE PURE STATEMENT of targumlaw6_Int11Apart: yours. -/
def targumlaw6_Int11Apart.Pure : Prop := ∀ (a0 : ByteArray) (a1 : Int), a0.size ≤ 140737488351232 → (Lit.int .u8 a1).wf = true → ∃ k, targumlaw6_Int11Apart.f k a0 a1 = some true
theorem targumlaw6_Int11Apart.walk (P : targumlaw6_Int11Apart.Pure) (a0 : ByteArray) (a1 : Int) (w : World) (w0 : a0.size ≤ 140737488351232) (w1 : (Lit.int .u8 a1).wf = true) (hG : Go.Proofs.YtkijneohhilboaaDoor.PIT.Tabs w) :
  Calls Tryd.prog 7 #[.string a0, .int .u8 a1] w fun e w' => e = .returned (.bool true) ∧ Below w.heap.size w w' := by
 obtain ⟨k, h⟩ := P a0 a1 w0 w1
 refine (targumlaw6_Int11Apart.calls k a0 a1 true w hG h).mono ?_
 rintro e w' ⟨rfl, hd⟩
 exact ⟨rfl, hd⟩

end Go.Proofs.YtkijneohhilboaaDoor.PI
