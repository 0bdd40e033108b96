/- Written by this session's own program (xprint, made over the kit's print): Lean functions with the same answers as the Go functions, and the proofs of that. Not trusted: Lean checks it. -/
import Derived.Test.YtkijneohhilboaaDoorPVx0
import Derived.Test.YtkijneohhilboaaDoorPVx2
import Derived.Test.YtkijneohhilboaaDoorPVx6
import Derived.Test.YtkijneohhilboaaDoorPVx7
import Derived.Test.YtkijneohhilboaaDoorXW
namespace Go.Proofs.YtkijneohhilboaaDoor.PV
open Go.Proofs.YtkijneohhilboaaDoor.XW Go.RowKit Go.Proofs.YtkijneohhilboaaDoorW.PrintWords Go.Proofs.YtkijneohhilboaaDoorW.PrintLast Go.Proofs.YtkijneohhilboaaDoorW.PrintMore
attribute [local go_sem] max2_int min2_int max_two min_two max_three min_three max_four min_four   -- for this text's walks alone
set_option linter.unusedVariables false
set_option linter.unusedSimpArgs false

/-! ### float11_Is: function 21 -/
def float11_Is.f (k : Nat) (a0 : ByteArray) : Option (Bool) := (float11_Form.f k a0).bind fun t227 => (some (decide (t227 > 0)))
theorem float11_Is.mono : ∀ a0 k, LeO (float11_Is.f k a0) (float11_Is.f (k + 1) a0) := by
 intro a0 k
 unfold float11_Is.f
 repeat' first
   | (with_reducible exact float11_Form.mono _ _)
   | (with_reducible exact LeO.refl _)
   | (with_reducible exact LeO.none _)
   | (with_reducible refine LeO.ite ?_ ?_)
   | (with_reducible refine LeO.bind ?_ (fun _ => ?_))
   | exact float11_Form.mono _ _
   | exact LeO.none _
   | refine LeO.ite ?_ ?_
   | refine LeO.bind ?_ (fun _ => ?_)
set_option maxHeartbeats 8000000 in
set_option maxRecDepth 100000 in
theorem float11_Is.calls (k : Nat) (a0 : ByteArray) (r : Bool) (w : World) (h : float11_Is.f k a0 = some r) :
  Calls Tryd.prog 21 #[.string a0] w fun e w' => e = .returned (.bool r) ∧ Below w.heap.size w w' := by
 have HB := Aside0.mk (Below.refl w.heap.size w)
 have H : ((float11_Form.f k a0).bind fun t227 => (some (decide (t227 > 0)))) = some r := h
 clear h
 replace H := Option.bind_eq_some_iff.mp H
 obtain ⟨t227, A20, H⟩ := H
 replace H : (some (decide (t227 > 0))) = some r := H
 have A2 := Aside0.mk A20
 clear A20
 obtain rfl := Option.some.inj H
 go_enter Tryd.func21, Tryd.ntmps21
 go_wp2_with (first | ((with_reducible refine gate_callee (f := 20) rfl ?_); refine goesL_ (some 4) rfl rfl Tryd.func20 (by kernel_rfl) rfl #[.string a0] rfl (by (try simp only [List.map_toArray, List.map_cons, List.map_nil]); first | done | rfl | (simp only [List.length_drop, List.length_take]; rfl)) ?_; (with_reducible refine (float11_Form.calls k a0 t227 _ A2.out).mono ?_); rintro e w3 ⟨rfl, hb⟩; refine ⟨_, rfl, ?_⟩; have n0_ := Aside0.mk (below_step bl hb); clear HB; have HB := n0_; clear n0_; (try clear hb); (try clear hb2); (try clear hk); (try clear hi)))
 go_ret
 exact ⟨by first | rfl | (simp [errW_none, errW_some] <;> rfl) | (simp [*, errW_none, errW_some] <;> rfl), bl⟩

/-! ### targumlaw7_Float11Apart: function 9 -/
def targumlaw7_Float11Apart.j0 : Nat → ByteArray → Bool → Option (Bool)
 | 0, _, _ => none
 | k + 1, x0, x14 => if x14 = true then (some false) else ((float11_Is.f k x0).bind fun t231 => (if t231 = true then ((float11_Form.f k x0).bind fun t233 => (if t233 ≥ 1 then (if t233 ≤ 5 then (if x0.size + 1 ≤ 9223372036854775807 then ((float11_Is.f k (x0 ++ (⟨#[32]⟩ : ByteArray))).bind fun t234 => (if t234 = true then (some false) else (if 1 + x0.size ≤ 9223372036854775807 then ((float11_Is.f k ((⟨#[32]⟩ : ByteArray) ++ x0)).bind fun t235 => (if t235 = true then (some false) else (if 2 + x0.size ≤ 9223372036854775807 then ((float11_Is.f k ((⟨#[43, 45]⟩ : ByteArray) ++ x0)).bind fun t236 => (if t236 = true then (some false) else ((float11_Is.f k (x0 ++ (⟨#[120]⟩ : ByteArray))).bind fun t237 => (if t237 = true then (some false) else (if x0.size + 2 ≤ 9223372036854775807 then ((float11_Is.f k (x0 ++ (⟨#[46, 46]⟩ : ByteArray))).bind fun t238 => (if t238 = true then (some false) else ((int11_Is.f (x0 ++ (⟨#[120]⟩ : ByteArray))).bind fun t239 => (some (!t239))))) else (none)))))) else (none)))) else (none)))) else (none)) else (some false)) else (some false))) else ((float11_Form.f k x0).bind fun t232 => (some (t232 == 0)))))
def targumlaw7_Float11Apart.f (k : Nat) (a0 : ByteArray) : Option (Bool) := (targumlaw7_known.f k).bind fun t228 => (if t228 = true then (if (a0.size : Int) > 60 then (some true) else ((int11_Is.f a0).bind fun t229 => (if t229 = true then ((float11_Is.f k a0).bind fun t230 => (targumlaw7_Float11Apart.j0 k a0 t230)) else (targumlaw7_Float11Apart.j0 k a0 false)))) else (some false))
theorem targumlaw7_Float11Apart.mono_l : ∀ k, (∀ y0 y1, LeO (targumlaw7_Float11Apart.j0 k y0 y1) (targumlaw7_Float11Apart.j0 (k + 1) y0 y1))
 | 0 => fun _ _ r h => by simp [targumlaw7_Float11Apart.j0] at h
 | k + 1 => by
  have ih0 := targumlaw7_Float11Apart.mono_l k
  ·intro y0 y1
   unfold targumlaw7_Float11Apart.j0
   repeat' first
   | (with_reducible exact ih0 _ _)
   | (with_reducible exact float11_Form.mono _ _)
   | (with_reducible exact float11_Is.mono _ _)
   | (with_reducible exact targumlaw7_known.mono _)
   | (with_reducible exact LeO.refl _)
   | (with_reducible exact LeO.none _)
   | (with_reducible refine LeO.ite ?_ ?_)
   | (with_reducible refine LeO.bind ?_ (fun _ => ?_))
   | exact ih0 _ _
   | exact float11_Form.mono _ _
   | exact float11_Is.mono _ _
   | exact targumlaw7_known.mono _
   | exact LeO.none _
   | refine LeO.ite ?_ ?_
   | refine LeO.bind ?_ (fun _ => ?_)
theorem targumlaw7_Float11Apart.mono : ∀ a0 k, LeO (targumlaw7_Float11Apart.f k a0) (targumlaw7_Float11Apart.f (k + 1) a0) := by
 intro a0 k
 have ih0 := targumlaw7_Float11Apart.mono_l k
 unfold targumlaw7_Float11Apart.f
 repeat' first
   | (with_reducible exact ih0 _ _)
   | (with_reducible exact float11_Form.mono _ _)
   | (with_reducible exact float11_Is.mono _ _)
   | (with_reducible exact targumlaw7_known.mono _)
   | (with_reducible exact LeO.refl _)
   | (with_reducible exact LeO.none _)
   | (with_reducible refine LeO.ite ?_ ?_)
   | (with_reducible refine LeO.bind ?_ (fun _ => ?_))
   | exact ih0 _ _
   | exact float11_Form.mono _ _
   | exact float11_Is.mono _ _
   | exact targumlaw7_known.mono _
   | exact LeO.none _
   | refine LeO.ite ?_ ?_
   | refine LeO.bind ?_ (fun _ => ?_)
set_option maxHeartbeats 8000000 in
set_option maxRecDepth 100000 in
theorem targumlaw7_Float11Apart.calls (k : Nat) (a0 : ByteArray) (r : Bool) (w : World) (hG : Go.Proofs.YtkijneohhilboaaDoor.PVT.Tabs w) (h : targumlaw7_Float11Apart.f k a0 = some r) :
  Calls Tryd.prog 9 #[.string a0] w fun e w' => e = .returned (.bool r) ∧ Below w.heap.size w w' := by
 have HG := Aside0.mk hG
 clear hG
 have HB := Aside0.mk (Below.refl w.heap.size w)
 have H : ((targumlaw7_known.f k).bind fun t228 => (if t228 = true then (if (a0.size : Int) > 60 then (some true) else ((int11_Is.f a0).bind fun t229 => (if t229 = true then ((float11_Is.f k a0).bind fun t230 => (targumlaw7_Float11Apart.j0 k a0 t230)) else (targumlaw7_Float11Apart.j0 k a0 false)))) else (some false))) = some r := h
 clear h
 replace H := Option.bind_eq_some_iff.mp H
 obtain ⟨t228, A20, H⟩ := H
 replace H : (if t228 = true then (if (a0.size : Int) > 60 then (some true) else ((int11_Is.f a0).bind fun t229 => (if t229 = true then ((float11_Is.f k a0).bind fun t230 => (targumlaw7_Float11Apart.j0 k a0 t230)) else (targumlaw7_Float11Apart.j0 k a0 false)))) else (some false)) = some r := H
 have A2 := Aside0.mk A20
 clear A20
 by_cases c3 : t228 = true
 ·subst c3
  have H1 : (if (a0.size : Int) > 60 then (some true) else ((int11_Is.f a0).bind fun t229 => (if t229 = true then ((float11_Is.f k a0).bind fun t230 => (targumlaw7_Float11Apart.j0 k a0 t230)) else (targumlaw7_Float11Apart.j0 k a0 false)))) = some r := by rw [if_pos rfl] at H; exact H
  clear H
  have H := H1
  clear H1
  by_cases c4 : (a0.size : Int) > 60
  ·rw [if_pos c4] at H
   have c4b0 : decide (60 < (a0.size : Int)) = true := decide_eq_true c4
   have c4b1 : decide (60 < a0.size) = true := decide_eq_true (by omega)
   clear c4
   obtain rfl := Option.some.inj H
   go_enter Tryd.func9, Tryd.ntmps9
   go_wp2_with (first | ((with_reducible refine gate_callee (f := 18) rfl ?_); refine goesL_ (some 4) rfl rfl Tryd.func18 (by kernel_rfl) rfl #[] rfl (by (try simp only [List.map_toArray, List.map_cons, List.map_nil]); first | done | rfl | (simp only [List.length_drop, List.length_take]; rfl)) ?_; (with_reducible refine (targumlaw7_known.calls k  true _ ?side1 A2.out).mono ?_); (case side1 => exact Go.Proofs.YtkijneohhilboaaDoor.PVT.Tabs_below HG.out bl); rintro e w5 ⟨rfl, hb⟩; refine ⟨_, rfl, ?_⟩; have n0_ := Aside0.mk (below_step bl hb); clear HB; have HB := n0_; clear n0_; (try clear hb); (try clear hb2); (try clear hk); (try clear hi)))
   go_ret
   exact ⟨by first | rfl | (simp [errW_none, errW_some] <;> rfl) | (simp [*, errW_none, errW_some] <;> rfl), bl⟩
  ·rw [if_neg c4] at H
   have c4b0 : decide (60 < (a0.size : Int)) = false := decide_eq_false c4
   have c4b1 : decide (60 < a0.size) = false := decide_eq_false (by omega)
   clear c4
   have HC6 := Aside0.mk H
   clear H
   go_enter Tryd.func9, Tryd.ntmps9
   go_upto_region 5 with (first | ((with_reducible refine gate_callee (f := 18) rfl ?_); refine goesL_ (some 4) rfl rfl Tryd.func18 (by kernel_rfl) rfl #[] rfl (by (try simp only [List.map_toArray, List.map_cons, List.map_nil]); first | done | rfl | (simp only [List.length_drop, List.length_take]; rfl)) ?_; (with_reducible refine (targumlaw7_known.calls k  true _ ?side1 A2.out).mono ?_); (case side1 => exact Go.Proofs.YtkijneohhilboaaDoor.PVT.Tabs_below HG.out bl); rintro e w7 ⟨rfl, hb⟩; refine ⟨_, rfl, ?_⟩; have n0_ := Aside0.mk (below_step bl hb); clear HB; have HB := n0_; clear n0_; (try clear hb); (try clear hb2); (try clear hk); (try clear hi)))
   (try simp only [Act.put, List.setIfInBounds_toArray, List.set_cons_zero, List.set_cons_succ])
   go_cut [14] (fun v14 wc => ∃ (kq : Nat) (x14_5 : Bool), v14 = .bool x14_5 ∧ Aside0 (targumlaw7_Float11Apart.j0 kq a0 x14_5 = some r) ∧ Aside0 (kq ≤ k) ∧ Aside0 (Below w.heap.size w wc))
   case first =>
    have H := HC6.out
    clear HC6
    replace H := Option.bind_eq_some_iff.mp H
    obtain ⟨t229, A80, H⟩ := H
    replace H : (if t229 = true then ((float11_Is.f k a0).bind fun t230 => (targumlaw7_Float11Apart.j0 k a0 t230)) else (targumlaw7_Float11Apart.j0 k a0 false)) = some r := H
    have A8 := Aside0.mk A80
    clear A80
    by_cases c9 : t229 = true
    ·subst c9
     have H1 : ((float11_Is.f k a0).bind fun t230 => (targumlaw7_Float11Apart.j0 k a0 t230)) = some r := by rw [if_pos rfl] at H; exact H
     clear H
     have H := H1
     clear H1
     replace H := Option.bind_eq_some_iff.mp H
     obtain ⟨t230, A100, H⟩ := H
     replace H : (targumlaw7_Float11Apart.j0 k a0 t230) = some r := H
     have A10 := Aside0.mk A100
     clear A100
     have H' := Aside0.mk H
     clear H
     go_wp2_with (first | ((with_reducible refine gate_callee (f := 16) rfl ?_); refine goesL_ (some 10) rfl rfl Tryd.func16 (by kernel_rfl) rfl #[.string a0] rfl (by (try simp only [List.map_toArray, List.map_cons, List.map_nil]); first | done | rfl | (simp only [List.length_drop, List.length_take]; rfl)) ?_; (with_reducible refine (int11_Is.calls a0 true _ A8.out).mono ?_); rintro e w11 ⟨rfl, hb⟩; refine ⟨_, rfl, ?_⟩; have n0_ := Aside0.mk (below_step bl hb); clear HB; have HB := n0_; clear n0_; (try clear hb); (try clear hb2); (try clear hk); (try clear hi)) | (go_at_call 21; (with_reducible refine (float11_Is.calls k a0 t230 _ A10.out).mono ?_); rintro e w12 ⟨rfl, hb⟩; have n0_ := Aside0.mk (below_step bl hb); clear HB; have HB := n0_; clear n0_; (try clear hb); (try clear hb2); (try clear hk); (try clear hi)))
     go_meet
     case rel => exact ⟨_, (t230), (by first | rfl | (simp; done) | (simp [*]; done) | (simp [wrap64]; done)), H', ⟨by first | omega | exact Nat.le_refl _⟩, ⟨bl⟩⟩
    ·replace c9 := Bool.eq_false_iff.mpr c9
     subst c9
     have H1 : (targumlaw7_Float11Apart.j0 k a0 false) = some r := by rw [if_neg (show ¬ (false = true) by decide)] at H; exact H
     clear H
     have H := H1
     clear H1
     have H' := Aside0.mk H
     clear H
     go_wp2_with (first | ((with_reducible refine gate_callee (f := 16) rfl ?_); refine goesL_ (some 10) rfl rfl Tryd.func16 (by kernel_rfl) rfl #[.string a0] rfl (by (try simp only [List.map_toArray, List.map_cons, List.map_nil]); first | done | rfl | (simp only [List.length_drop, List.length_take]; rfl)) ?_; (with_reducible refine (int11_Is.calls a0 false _ A8.out).mono ?_); rintro e w13 ⟨rfl, hb⟩; refine ⟨_, rfl, ?_⟩; have n0_ := Aside0.mk (below_step bl hb); clear HB; have HB := n0_; clear n0_; (try clear hb); (try clear hb2); (try clear hk); (try clear hi)))
     go_meet
     case rel => exact ⟨_, (false), (by first | rfl | (simp; done) | (simp [*]; done) | (simp [wrap64]; done)), H', ⟨by first | omega | exact Nat.le_refl _⟩, ⟨bl⟩⟩
   case rest =>
    clear HC6
    try clear c1; try clear p2; try clear c3; try clear c4; try clear c4b0; try clear c4b1; try clear c9
    obtain ⟨kq, x14_5, rfl, HA, HJ5, HB⟩ := hcut
    cases kq with
    | zero => exact absurd HA.out (by simp [targumlaw7_Float11Apart.j0])
    | succ kj5 =>
     have H := HA.out
     clear HA
     simp only [targumlaw7_Float11Apart.j0] at H
     by_cases c14 : x14_5 = true
     ·subst c14
      have H1 : (some false) = some r := by rw [if_pos rfl] at H; exact H
      clear H
      have H := H1
      clear H1
      obtain rfl := Option.some.inj H
      go_wp2
      go_ret
      exact ⟨by first | rfl | (simp [errW_none, errW_some] <;> rfl) | (simp [*, errW_none, errW_some] <;> rfl), bl⟩
     ·replace c14 := Bool.eq_false_iff.mpr c14
      subst c14
      have H1 : ((float11_Is.f kj5 a0).bind fun t231 => (if t231 = true then ((float11_Form.f kj5 a0).bind fun t233 => (if t233 ≥ 1 then (if t233 ≤ 5 then (if a0.size + 1 ≤ 9223372036854775807 then ((float11_Is.f kj5 (a0 ++ (⟨#[32]⟩ : ByteArray))).bind fun t234 => (if t234 = true then (some false) else (if 1 + a0.size ≤ 9223372036854775807 then ((float11_Is.f kj5 ((⟨#[32]⟩ : ByteArray) ++ a0)).bind fun t235 => (if t235 = true then (some false) else (if 2 + a0.size ≤ 9223372036854775807 then ((float11_Is.f kj5 ((⟨#[43, 45]⟩ : ByteArray) ++ a0)).bind fun t236 => (if t236 = true then (some false) else ((float11_Is.f kj5 (a0 ++ (⟨#[120]⟩ : ByteArray))).bind fun t237 => (if t237 = true then (some false) else (if a0.size + 2 ≤ 9223372036854775807 then ((float11_Is.f kj5 (a0 ++ (⟨#[46, 46]⟩ : ByteArray))).bind fun t238 => (if t238 = true then (some false) else ((int11_Is.f (a0 ++ (⟨#[120]⟩ : ByteArray))).bind fun t239 => (some (!t239))))) else (none)))))) else (none)))) else (none)))) else (none)) else (some false)) else (some false))) else ((float11_Form.f kj5 a0).bind fun t232 => (some (t232 == 0))))) = some r := by rw [if_neg (show ¬ (false = true) by decide)] at H; exact H
      clear H
      have H := H1
      clear H1
      replace H := Option.bind_eq_some_iff.mp H
      obtain ⟨t231, A150, H⟩ := H
      replace H : (if t231 = true then ((float11_Form.f kj5 a0).bind fun t233 => (if t233 ≥ 1 then (if t233 ≤ 5 then (if a0.size + 1 ≤ 9223372036854775807 then ((float11_Is.f kj5 (a0 ++ (⟨#[32]⟩ : ByteArray))).bind fun t234 => (if t234 = true then (some false) else (if 1 + a0.size ≤ 9223372036854775807 then ((float11_Is.f kj5 ((⟨#[32]⟩ : ByteArray) ++ a0)).bind fun t235 => (if t235 = true then (some false) else (if 2 + a0.size ≤ 9223372036854775807 then ((float11_Is.f kj5 ((⟨#[43, 45]⟩ : ByteArray) ++ a0)).bind fun t236 => (if t236 = true then (some false) else ((float11_Is.f kj5 (a0 ++ (⟨#[120]⟩ : ByteArray))).bind fun t237 => (if t237 = true then (some false) else (if a0.size + 2 ≤ 9223372036854775807 then ((float11_Is.f kj5 (a0 ++ (⟨#[46, 46]⟩ : ByteArray))).bind fun t238 => (if t238 = true then (some false) else ((int11_Is.f (a0 ++ (⟨#[120]⟩ : ByteArray))).bind fun t239 => (some (!t239))))) else (none)))))) else (none)))) else (none)))) else (none)) else (some false)) else (some false))) else ((float11_Form.f kj5 a0).bind fun t232 => (some (t232 == 0)))) = some r := H
      have A15 := Aside0.mk A150
      clear A150
      by_cases c16 : t231 = true
      ·subst c16
       have H1 : ((float11_Form.f kj5 a0).bind fun t233 => (if t233 ≥ 1 then (if t233 ≤ 5 then (if a0.size + 1 ≤ 9223372036854775807 then ((float11_Is.f kj5 (a0 ++ (⟨#[32]⟩ : ByteArray))).bind fun t234 => (if t234 = true then (some false) else (if 1 + a0.size ≤ 9223372036854775807 then ((float11_Is.f kj5 ((⟨#[32]⟩ : ByteArray) ++ a0)).bind fun t235 => (if t235 = true then (some false) else (if 2 + a0.size ≤ 9223372036854775807 then ((float11_Is.f kj5 ((⟨#[43, 45]⟩ : ByteArray) ++ a0)).bind fun t236 => (if t236 = true then (some false) else ((float11_Is.f kj5 (a0 ++ (⟨#[120]⟩ : ByteArray))).bind fun t237 => (if t237 = true then (some false) else (if a0.size + 2 ≤ 9223372036854775807 then ((float11_Is.f kj5 (a0 ++ (⟨#[46, 46]⟩ : ByteArray))).bind fun t238 => (if t238 = true then (some false) else ((int11_Is.f (a0 ++ (⟨#[120]⟩ : ByteArray))).bind fun t239 => (some (!t239))))) else (none)))))) else (none)))) else (none)))) else (none)) else (some false)) else (some false))) = some r := by rw [if_pos rfl] at H; exact H
       clear H
       have H := H1
       clear H1
       replace H := Option.bind_eq_some_iff.mp H
       obtain ⟨t233, A170, H⟩ := H
       replace H : (if t233 ≥ 1 then (if t233 ≤ 5 then (if a0.size + 1 ≤ 9223372036854775807 then ((float11_Is.f kj5 (a0 ++ (⟨#[32]⟩ : ByteArray))).bind fun t234 => (if t234 = true then (some false) else (if 1 + a0.size ≤ 9223372036854775807 then ((float11_Is.f kj5 ((⟨#[32]⟩ : ByteArray) ++ a0)).bind fun t235 => (if t235 = true then (some false) else (if 2 + a0.size ≤ 9223372036854775807 then ((float11_Is.f kj5 ((⟨#[43, 45]⟩ : ByteArray) ++ a0)).bind fun t236 => (if t236 = true then (some false) else ((float11_Is.f kj5 (a0 ++ (⟨#[120]⟩ : ByteArray))).bind fun t237 => (if t237 = true then (some false) else (if a0.size + 2 ≤ 9223372036854775807 then ((float11_Is.f kj5 (a0 ++ (⟨#[46, 46]⟩ : ByteArray))).bind fun t238 => (if t238 = true then (some false) else ((int11_Is.f (a0 ++ (⟨#[120]⟩ : ByteArray))).bind fun t239 => (some (!t239))))) else (none)))))) else (none)))) else (none)))) else (none)) else (some false)) else (some false)) = some r := H
       have A17 := Aside0.mk A170
       clear A170
       by_cases c18 : t233 ≥ 1
       ·rw [if_pos c18] at H
        have c18b0 : decide (1 ≤ t233) = true := decide_eq_true c18
        clear c18
        by_cases c19 : t233 ≤ 5
        ·rw [if_pos c19] at H
         have c19b0 : decide (t233 ≤ 5) = true := decide_eq_true c19
         clear c19
         by_cases c20 : a0.size + 1 ≤ 9223372036854775807
         ·rw [if_pos c20] at H
          have c20b0 := eq_true c20
          have c20b1 : decide (a0.size + 1 ≤ 9223372036854775807) = true := decide_eq_true c20
          try have c20b2 : (9223372036854775807 < a0.size + 1) = False := eq_false (Nat.not_lt.2 c20)
          replace H := Option.bind_eq_some_iff.mp H
          obtain ⟨t234, A210, H⟩ := H
          replace H : (if t234 = true then (some false) else (if 1 + a0.size ≤ 9223372036854775807 then ((float11_Is.f kj5 ((⟨#[32]⟩ : ByteArray) ++ a0)).bind fun t235 => (if t235 = true then (some false) else (if 2 + a0.size ≤ 9223372036854775807 then ((float11_Is.f kj5 ((⟨#[43, 45]⟩ : ByteArray) ++ a0)).bind fun t236 => (if t236 = true then (some false) else ((float11_Is.f kj5 (a0 ++ (⟨#[120]⟩ : ByteArray))).bind fun t237 => (if t237 = true then (some false) else (if a0.size + 2 ≤ 9223372036854775807 then ((float11_Is.f kj5 (a0 ++ (⟨#[46, 46]⟩ : ByteArray))).bind fun t238 => (if t238 = true then (some false) else ((int11_Is.f (a0 ++ (⟨#[120]⟩ : ByteArray))).bind fun t239 => (some (!t239))))) else (none)))))) else (none)))) else (none))) = some r := H
          have A21 := Aside0.mk A210
          clear A210
          by_cases c22 : t234 = true
          ·subst c22
           have H1 : (some false) = some r := by rw [if_pos rfl] at H; exact H
           clear H
           have H := H1
           clear H1
           obtain rfl := Option.some.inj H
           go_wp2_with (first | ((with_reducible refine gate_callee (f := 21) rfl ?_); refine goesL_ (some 16) rfl rfl Tryd.func21 (by kernel_rfl) rfl #[.string a0] rfl (by (try simp only [List.map_toArray, List.map_cons, List.map_nil]); first | done | rfl | (simp only [List.length_drop, List.length_take]; rfl)) ?_; (with_reducible refine (float11_Is.calls kj5 a0 true _ A15.out).mono ?_); rintro e w23 ⟨rfl, hb⟩; refine ⟨_, rfl, ?_⟩; have n0_ := Aside0.mk (below_step bl hb); clear HB; have HB := n0_; clear n0_; (try clear hb); (try clear hb2); (try clear hk); (try clear hi)) | ((with_reducible refine gate_callee (f := 20) rfl ?_); refine goesL_ (some 22) rfl rfl Tryd.func20 (by kernel_rfl) rfl #[.string a0] rfl (by (try simp only [List.map_toArray, List.map_cons, List.map_nil]); first | done | rfl | (simp only [List.length_drop, List.length_take]; rfl)) ?_; (with_reducible refine (float11_Form.calls kj5 a0 t233 _ A17.out).mono ?_); rintro e w24 ⟨rfl, hb⟩; refine ⟨_, rfl, ?_⟩; have n0_ := Aside0.mk (below_step bl hb); clear HB; have HB := n0_; clear n0_; (try clear hb); (try clear hb2); (try clear hk); (try clear hi)) | (go_at_call 21; (with_reducible refine (float11_Is.calls kj5 (a0 ++ (⟨#[32]⟩ : ByteArray)) true _ A21.out).mono ?_); rintro e w25 ⟨rfl, hb⟩; have n0_ := Aside0.mk (below_step bl hb); clear HB; have HB := n0_; clear n0_; (try clear hb); (try clear hb2); (try clear hk); (try clear hi)))
           go_ret
           exact ⟨by first | rfl | (simp [errW_none, errW_some] <;> rfl) | (simp [*, errW_none, errW_some] <;> rfl), bl⟩
          ·replace c22 := Bool.eq_false_iff.mpr c22
           subst c22
           have H1 : (if 1 + a0.size ≤ 9223372036854775807 then ((float11_Is.f kj5 ((⟨#[32]⟩ : ByteArray) ++ a0)).bind fun t235 => (if t235 = true then (some false) else (if 2 + a0.size ≤ 9223372036854775807 then ((float11_Is.f kj5 ((⟨#[43, 45]⟩ : ByteArray) ++ a0)).bind fun t236 => (if t236 = true then (some false) else ((float11_Is.f kj5 (a0 ++ (⟨#[120]⟩ : ByteArray))).bind fun t237 => (if t237 = true then (some false) else (if a0.size + 2 ≤ 9223372036854775807 then ((float11_Is.f kj5 (a0 ++ (⟨#[46, 46]⟩ : ByteArray))).bind fun t238 => (if t238 = true then (some false) else ((int11_Is.f (a0 ++ (⟨#[120]⟩ : ByteArray))).bind fun t239 => (some (!t239))))) else (none)))))) else (none)))) else (none)) = some r := by rw [if_neg (show ¬ (false = true) by decide)] at H; exact H
           clear H
           have H := H1
           clear H1
           by_cases c26 : 1 + a0.size ≤ 9223372036854775807
           ·rw [if_pos c26] at H
            have c26b0 := eq_true c26
            have c26b1 : decide (1 + a0.size ≤ 9223372036854775807) = true := decide_eq_true c26
            try have c26b2 : (9223372036854775807 < 1 + a0.size) = False := eq_false (Nat.not_lt.2 c26)
            replace H := Option.bind_eq_some_iff.mp H
            obtain ⟨t235, A270, H⟩ := H
            replace H : (if t235 = true then (some false) else (if 2 + a0.size ≤ 9223372036854775807 then ((float11_Is.f kj5 ((⟨#[43, 45]⟩ : ByteArray) ++ a0)).bind fun t236 => (if t236 = true then (some false) else ((float11_Is.f kj5 (a0 ++ (⟨#[120]⟩ : ByteArray))).bind fun t237 => (if t237 = true then (some false) else (if a0.size + 2 ≤ 9223372036854775807 then ((float11_Is.f kj5 (a0 ++ (⟨#[46, 46]⟩ : ByteArray))).bind fun t238 => (if t238 = true then (some false) else ((int11_Is.f (a0 ++ (⟨#[120]⟩ : ByteArray))).bind fun t239 => (some (!t239))))) else (none)))))) else (none))) = some r := H
            have A27 := Aside0.mk A270
            clear A270
            by_cases c28 : t235 = true
            ·subst c28
             have H1 : (some false) = some r := by rw [if_pos rfl] at H; exact H
             clear H
             have H := H1
             clear H1
             obtain rfl := Option.some.inj H
             go_wp2_with (first | ((with_reducible refine gate_callee (f := 21) rfl ?_); refine goesL_ (some 16) rfl rfl Tryd.func21 (by kernel_rfl) rfl #[.string a0] rfl (by (try simp only [List.map_toArray, List.map_cons, List.map_nil]); first | done | rfl | (simp only [List.length_drop, List.length_take]; rfl)) ?_; (with_reducible refine (float11_Is.calls kj5 a0 true _ A15.out).mono ?_); rintro e w29 ⟨rfl, hb⟩; refine ⟨_, rfl, ?_⟩; have n0_ := Aside0.mk (below_step bl hb); clear HB; have HB := n0_; clear n0_; (try clear hb); (try clear hb2); (try clear hk); (try clear hi)) | ((with_reducible refine gate_callee (f := 20) rfl ?_); refine goesL_ (some 22) rfl rfl Tryd.func20 (by kernel_rfl) rfl #[.string a0] rfl (by (try simp only [List.map_toArray, List.map_cons, List.map_nil]); first | done | rfl | (simp only [List.length_drop, List.length_take]; rfl)) ?_; (with_reducible refine (float11_Form.calls kj5 a0 t233 _ A17.out).mono ?_); rintro e w30 ⟨rfl, hb⟩; refine ⟨_, rfl, ?_⟩; have n0_ := Aside0.mk (below_step bl hb); clear HB; have HB := n0_; clear n0_; (try clear hb); (try clear hb2); (try clear hk); (try clear hi)) | (go_at_call 21; (with_reducible refine (float11_Is.calls kj5 (a0 ++ (⟨#[32]⟩ : ByteArray)) false _ A21.out).mono ?_); rintro e w31 ⟨rfl, hb⟩; have n0_ := Aside0.mk (below_step bl hb); clear HB; have HB := n0_; clear n0_; (try clear hb); (try clear hb2); (try clear hk); (try clear hi)) | (go_at_call 21; (with_reducible refine (float11_Is.calls kj5 ((⟨#[32]⟩ : ByteArray) ++ a0) true _ A27.out).mono ?_); rintro e w32 ⟨rfl, hb⟩; have n0_ := Aside0.mk (below_step bl hb); clear HB; have HB := n0_; clear n0_; (try clear hb); (try clear hb2); (try clear hk); (try clear hi)))
             go_ret
             exact ⟨by first | rfl | (simp [errW_none, errW_some] <;> rfl) | (simp [*, errW_none, errW_some] <;> rfl), bl⟩
            ·replace c28 := Bool.eq_false_iff.mpr c28
             subst c28
             have H1 : (if 2 + a0.size ≤ 9223372036854775807 then ((float11_Is.f kj5 ((⟨#[43, 45]⟩ : ByteArray) ++ a0)).bind fun t236 => (if t236 = true then (some false) else ((float11_Is.f kj5 (a0 ++ (⟨#[120]⟩ : ByteArray))).bind fun t237 => (if t237 = true then (some false) else (if a0.size + 2 ≤ 9223372036854775807 then ((float11_Is.f kj5 (a0 ++ (⟨#[46, 46]⟩ : ByteArray))).bind fun t238 => (if t238 = true then (some false) else ((int11_Is.f (a0 ++ (⟨#[120]⟩ : ByteArray))).bind fun t239 => (some (!t239))))) else (none)))))) else (none)) = some r := by rw [if_neg (show ¬ (false = true) by decide)] at H; exact H
             clear H
             have H := H1
             clear H1
             by_cases c33 : 2 + a0.size ≤ 9223372036854775807
             ·rw [if_pos c33] at H
              have c33b0 := eq_true c33
              have c33b1 : decide (2 + a0.size ≤ 9223372036854775807) = true := decide_eq_true c33
              try have c33b2 : (9223372036854775807 < 2 + a0.size) = False := eq_false (Nat.not_lt.2 c33)
              replace H := Option.bind_eq_some_iff.mp H
              obtain ⟨t236, A340, H⟩ := H
              replace H : (if t236 = true then (some false) else ((float11_Is.f kj5 (a0 ++ (⟨#[120]⟩ : ByteArray))).bind fun t237 => (if t237 = true then (some false) else (if a0.size + 2 ≤ 9223372036854775807 then ((float11_Is.f kj5 (a0 ++ (⟨#[46, 46]⟩ : ByteArray))).bind fun t238 => (if t238 = true then (some false) else ((int11_Is.f (a0 ++ (⟨#[120]⟩ : ByteArray))).bind fun t239 => (some (!t239))))) else (none))))) = some r := H
              have A34 := Aside0.mk A340
              clear A340
              refine Classical.byCases (p := (t236 = true)) (fun c35 => ?x12) (fun c35 => ?y12)
              case' x12 =>
               subst c35
               have H1 : (some false) = some r := by rw [if_pos rfl] at H; exact H
               clear H
               have H := H1
               clear H1
               obtain rfl := Option.some.inj H
               skip
              case' y12 =>
               replace c35 := Bool.eq_false_iff.mpr c35
               subst c35
               have H1 : ((float11_Is.f kj5 (a0 ++ (⟨#[120]⟩ : ByteArray))).bind fun t237 => (if t237 = true then (some false) else (if a0.size + 2 ≤ 9223372036854775807 then ((float11_Is.f kj5 (a0 ++ (⟨#[46, 46]⟩ : ByteArray))).bind fun t238 => (if t238 = true then (some false) else ((int11_Is.f (a0 ++ (⟨#[120]⟩ : ByteArray))).bind fun t239 => (some (!t239))))) else (none)))) = some r := by rw [if_neg (show ¬ (false = true) by decide)] at H; exact H
               clear H
               have H := H1
               clear H1
               replace H := Option.bind_eq_some_iff.mp H
               obtain ⟨t237, A410, H⟩ := H
               replace H : (if t237 = true then (some false) else (if a0.size + 2 ≤ 9223372036854775807 then ((float11_Is.f kj5 (a0 ++ (⟨#[46, 46]⟩ : ByteArray))).bind fun t238 => (if t238 = true then (some false) else ((int11_Is.f (a0 ++ (⟨#[120]⟩ : ByteArray))).bind fun t239 => (some (!t239))))) else (none))) = some r := H
               have A41 := Aside0.mk A410
               clear A410
               refine Classical.byCases (p := (t237 = true)) (fun c42 => ?x13) (fun c42 => ?y13)
               case' x13 =>
                subst c42
                have H1 : (some false) = some r := by rw [if_pos rfl] at H; exact H
                clear H
                have H := H1
                clear H1
                obtain rfl := Option.some.inj H
                skip
               case' y13 =>
                replace c42 := Bool.eq_false_iff.mpr c42
                subst c42
                have H1 : (if a0.size + 2 ≤ 9223372036854775807 then ((float11_Is.f kj5 (a0 ++ (⟨#[46, 46]⟩ : ByteArray))).bind fun t238 => (if t238 = true then (some false) else ((int11_Is.f (a0 ++ (⟨#[120]⟩ : ByteArray))).bind fun t239 => (some (!t239))))) else (none)) = some r := by rw [if_neg (show ¬ (false = true) by decide)] at H; exact H
                clear H
                have H := H1
                clear H1
                refine Classical.byCases (p := (a0.size + 2 ≤ 9223372036854775807)) (fun c49 => ?x14) (fun c49 => ?y14)
                case' x14 =>
                 rw [if_pos c49] at H
                 have c49b0 := eq_true c49
                 have c49b1 : decide (a0.size + 2 ≤ 9223372036854775807) = true := decide_eq_true c49
                 try have c49b2 : (9223372036854775807 < a0.size + 2) = False := eq_false (Nat.not_lt.2 c49)
                 replace H := Option.bind_eq_some_iff.mp H
                 obtain ⟨t238, A500, H⟩ := H
                 replace H : (if t238 = true then (some false) else ((int11_Is.f (a0 ++ (⟨#[120]⟩ : ByteArray))).bind fun t239 => (some (!t239)))) = some r := H
                 have A50 := Aside0.mk A500
                 clear A500
                 refine Classical.byCases (p := (t238 = true)) (fun c51 => ?x15) (fun c51 => ?y15)
                 case' x15 =>
                  subst c51
                  have H1 : (some false) = some r := by rw [if_pos rfl] at H; exact H
                  clear H
                  have H := H1
                  clear H1
                  obtain rfl := Option.some.inj H
                  skip
                 case' y15 =>
                  replace c51 := Bool.eq_false_iff.mpr c51
                  subst c51
                  have H1 : ((int11_Is.f (a0 ++ (⟨#[120]⟩ : ByteArray))).bind fun t239 => (some (!t239))) = some r := by rw [if_neg (show ¬ (false = true) by decide)] at H; exact H
                  clear H
                  have H := H1
                  clear H1
                  replace H := Option.bind_eq_some_iff.mp H
                  obtain ⟨t239, A590, H⟩ := H
                  replace H : (some (!t239)) = some r := H
                  have A59 := Aside0.mk A590
                  clear A590
                  obtain rfl := Option.some.inj H
                  skip
                case' y14 =>
                 rw [if_neg c49] at H
                 exact absurd H (by simp)
              case x12 | x13 | x15 | y15 =>
               as_aux_lemma =>
                go_wp2_with (first | ((with_reducible refine gate_callee (f := 21) rfl ?_); refine goesL_ (some 16) rfl rfl Tryd.func21 (by kernel_rfl) rfl #[.string a0] rfl (by (try simp only [List.map_toArray, List.map_cons, List.map_nil]); first | done | rfl | (simp only [List.length_drop, List.length_take]; rfl)) ?_; (with_reducible refine (float11_Is.calls _ _ _ _ A15.out).mono ?_); rintro e w60 ⟨rfl, hb⟩; refine ⟨_, rfl, ?_⟩; have n0_ := Aside0.mk (below_step bl hb); clear HB; have HB := n0_; clear n0_; (try clear hb); (try clear hb2); (try clear hk); (try clear hi)) | ((with_reducible refine gate_callee (f := 20) rfl ?_); refine goesL_ (some 22) rfl rfl Tryd.func20 (by kernel_rfl) rfl #[.string a0] rfl (by (try simp only [List.map_toArray, List.map_cons, List.map_nil]); first | done | rfl | (simp only [List.length_drop, List.length_take]; rfl)) ?_; (with_reducible refine (float11_Form.calls _ _ _ _ A17.out).mono ?_); rintro e w61 ⟨rfl, hb⟩; refine ⟨_, rfl, ?_⟩; have n0_ := Aside0.mk (below_step bl hb); clear HB; have HB := n0_; clear n0_; (try clear hb); (try clear hb2); (try clear hk); (try clear hi)) | (go_at_call 21; (with_reducible refine (float11_Is.calls _ _ _ _ A21.out).mono ?_); rintro e w62 ⟨rfl, hb⟩; have n0_ := Aside0.mk (below_step bl hb); clear HB; have HB := n0_; clear n0_; (try clear hb); (try clear hb2); (try clear hk); (try clear hi)) | (go_at_call 21; (with_reducible refine (float11_Is.calls _ _ _ _ A27.out).mono ?_); rintro e w63 ⟨rfl, hb⟩; have n0_ := Aside0.mk (below_step bl hb); clear HB; have HB := n0_; clear n0_; (try clear hb); (try clear hb2); (try clear hk); (try clear hi)) | (go_at_call 21; (with_reducible refine (float11_Is.calls _ _ _ _ A34.out).mono ?_); rintro e w64 ⟨rfl, hb⟩; have n0_ := Aside0.mk (below_step bl hb); clear HB; have HB := n0_; clear n0_; (try clear hb); (try clear hb2); (try clear hk); (try clear hi)) | (go_at_call 21; (with_reducible refine (float11_Is.calls _ _ _ _ A41.out).mono ?_); rintro e w65 ⟨rfl, hb⟩; have n0_ := Aside0.mk (below_step bl hb); clear HB; have HB := n0_; clear n0_; (try clear hb); (try clear hb2); (try clear hk); (try clear hi)) | (go_at_call 21; (with_reducible refine (float11_Is.calls _ _ _ _ A50.out).mono ?_); rintro e w66 ⟨rfl, hb⟩; have n0_ := Aside0.mk (below_step bl hb); clear HB; have HB := n0_; clear n0_; (try clear hb); (try clear hb2); (try clear hk); (try clear hi)) | (go_at_call 16; (with_reducible refine (int11_Is.calls _ _ _ A59.out).mono ?_); rintro e w67 ⟨rfl, hb⟩; have n0_ := Aside0.mk (below_step bl hb); clear HB; have HB := n0_; clear n0_; (try clear hb); (try clear hb2); (try clear hk); (try clear hi)))
                go_ret
                exact ⟨by first | rfl | (simp [errW_none, errW_some] <;> rfl) | (simp [*, errW_none, errW_some] <;> rfl), bl⟩
             ·rw [if_neg c33] at H
              exact absurd H (by simp)
           ·rw [if_neg c26] at H
            exact absurd H (by simp)
         ·rw [if_neg c20] at H
          exact absurd H (by simp)
        ·rw [if_neg c19] at H
         have c19b0 : decide (t233 ≤ 5) = false := decide_eq_false c19
         clear c19
         obtain rfl := Option.some.inj H
         go_wp2_with (first | ((with_reducible refine gate_callee (f := 21) rfl ?_); refine goesL_ (some 16) rfl rfl Tryd.func21 (by kernel_rfl) rfl #[.string a0] rfl (by (try simp only [List.map_toArray, List.map_cons, List.map_nil]); first | done | rfl | (simp only [List.length_drop, List.length_take]; rfl)) ?_; (with_reducible refine (float11_Is.calls kj5 a0 true _ A15.out).mono ?_); rintro e w68 ⟨rfl, hb⟩; refine ⟨_, rfl, ?_⟩; have n0_ := Aside0.mk (below_step bl hb); clear HB; have HB := n0_; clear n0_; (try clear hb); (try clear hb2); (try clear hk); (try clear hi)) | ((with_reducible refine gate_callee (f := 20) rfl ?_); refine goesL_ (some 22) rfl rfl Tryd.func20 (by kernel_rfl) rfl #[.string a0] rfl (by (try simp only [List.map_toArray, List.map_cons, List.map_nil]); first | done | rfl | (simp only [List.length_drop, List.length_take]; rfl)) ?_; (with_reducible refine (float11_Form.calls kj5 a0 t233 _ A17.out).mono ?_); rintro e w69 ⟨rfl, hb⟩; refine ⟨_, rfl, ?_⟩; have n0_ := Aside0.mk (below_step bl hb); clear HB; have HB := n0_; clear n0_; (try clear hb); (try clear hb2); (try clear hk); (try clear hi)))
         go_ret
         exact ⟨by first | rfl | (simp [errW_none, errW_some] <;> rfl) | (simp [*, errW_none, errW_some] <;> rfl), bl⟩
       ·rw [if_neg c18] at H
        have c18b0 : decide (1 ≤ t233) = false := decide_eq_false c18
        clear c18
        obtain rfl := Option.some.inj H
        go_wp2_with (first | ((with_reducible refine gate_callee (f := 21) rfl ?_); refine goesL_ (some 16) rfl rfl Tryd.func21 (by kernel_rfl) rfl #[.string a0] rfl (by (try simp only [List.map_toArray, List.map_cons, List.map_nil]); first | done | rfl | (simp only [List.length_drop, List.length_take]; rfl)) ?_; (with_reducible refine (float11_Is.calls kj5 a0 true _ A15.out).mono ?_); rintro e w70 ⟨rfl, hb⟩; refine ⟨_, rfl, ?_⟩; have n0_ := Aside0.mk (below_step bl hb); clear HB; have HB := n0_; clear n0_; (try clear hb); (try clear hb2); (try clear hk); (try clear hi)) | ((with_reducible refine gate_callee (f := 20) rfl ?_); refine goesL_ (some 22) rfl rfl Tryd.func20 (by kernel_rfl) rfl #[.string a0] rfl (by (try simp only [List.map_toArray, List.map_cons, List.map_nil]); first | done | rfl | (simp only [List.length_drop, List.length_take]; rfl)) ?_; (with_reducible refine (float11_Form.calls kj5 a0 t233 _ A17.out).mono ?_); rintro e w71 ⟨rfl, hb⟩; refine ⟨_, rfl, ?_⟩; have n0_ := Aside0.mk (below_step bl hb); clear HB; have HB := n0_; clear n0_; (try clear hb); (try clear hb2); (try clear hk); (try clear hi)))
        go_ret
        exact ⟨by first | rfl | (simp [errW_none, errW_some] <;> rfl) | (simp [*, errW_none, errW_some] <;> rfl), bl⟩
      ·replace c16 := Bool.eq_false_iff.mpr c16
       subst c16
       have H1 : ((float11_Form.f kj5 a0).bind fun t232 => (some (t232 == 0))) = some r := by rw [if_neg (show ¬ (false = true) by decide)] at H; exact H
       clear H
       have H := H1
       clear H1
       replace H := Option.bind_eq_some_iff.mp H
       obtain ⟨t232, A720, H⟩ := H
       replace H : (some (t232 == 0)) = some r := H
       have A72 := Aside0.mk A720
       clear A720
       obtain rfl := Option.some.inj H
       go_wp2_with (first | ((with_reducible refine gate_callee (f := 21) rfl ?_); refine goesL_ (some 16) rfl rfl Tryd.func21 (by kernel_rfl) rfl #[.string a0] rfl (by (try simp only [List.map_toArray, List.map_cons, List.map_nil]); first | done | rfl | (simp only [List.length_drop, List.length_take]; rfl)) ?_; (with_reducible refine (float11_Is.calls kj5 a0 false _ A15.out).mono ?_); rintro e w73 ⟨rfl, hb⟩; refine ⟨_, rfl, ?_⟩; have n0_ := Aside0.mk (below_step bl hb); clear HB; have HB := n0_; clear n0_; (try clear hb); (try clear hb2); (try clear hk); (try clear hi)) | ((with_reducible refine gate_callee (f := 20) rfl ?_); refine goesL_ (some 19) rfl rfl Tryd.func20 (by kernel_rfl) rfl #[.string a0] rfl (by (try simp only [List.map_toArray, List.map_cons, List.map_nil]); first | done | rfl | (simp only [List.length_drop, List.length_take]; rfl)) ?_; (with_reducible refine (float11_Form.calls kj5 a0 t232 _ A72.out).mono ?_); rintro e w74 ⟨rfl, hb⟩; refine ⟨_, rfl, ?_⟩; have n0_ := Aside0.mk (below_step bl hb); clear HB; have HB := n0_; clear n0_; (try clear hb); (try clear hb2); (try clear hk); (try clear hi)))
       go_ret
       exact ⟨by first | rfl | (simp [errW_none, errW_some] <;> rfl) | (simp [*, errW_none, errW_some] <;> rfl), bl⟩
 ·replace c3 := Bool.eq_false_iff.mpr c3
  subst c3
  have H1 : (some false) = some r := by rw [if_neg (show ¬ (false = true) by decide)] at H; exact H
  clear H
  have H := H1
  clear H1
  obtain rfl := Option.some.inj H
  go_enter Tryd.func9, Tryd.ntmps9
  go_wp2_with (first | ((with_reducible refine gate_callee (f := 18) rfl ?_); refine goesL_ (some 4) rfl rfl Tryd.func18 (by kernel_rfl) rfl #[] rfl (by (try simp only [List.map_toArray, List.map_cons, List.map_nil]); first | done | rfl | (simp only [List.length_drop, List.length_take]; rfl)) ?_; (with_reducible refine (targumlaw7_known.calls k  false _ ?side1 A2.out).mono ?_); (case side1 => exact Go.Proofs.YtkijneohhilboaaDoor.PVT.Tabs_below HG.out bl); rintro e w75 ⟨rfl, hb⟩; refine ⟨_, rfl, ?_⟩; have n0_ := Aside0.mk (below_step bl hb); clear HB; have HB := n0_; clear n0_; (try clear hb); (try clear hb2); (try clear hk); (try clear hi)))
  go_ret
  exact ⟨by first | rfl | (simp [errW_none, errW_some] <;> rfl) | (simp [*, errW_none, errW_some] <;> rfl), bl⟩

/-- THE ONE PURE STATEMENT of targumlaw7_Float11Apart: yours. -/
def targumlaw7_Float11Apart.Pure : Prop := ∀ (a0 : ByteArray), a0.size ≤ 140737488351232 → ∃ k, targumlaw7_Float11Apart.f k a0 = some true
theorem targumlaw7_Float11Apart.walk (P : targumlaw7_Float11Apart.Pure) (a0 : ByteArray) (w : World) (w0 : a0.size ≤ 140737488351232) (hG : Go.Proofs.YtkijneohhilboaaDoor.PVT.Tabs w) :
  Calls Tryd.prog 9 #[.string a0] w fun e w' => e = .returned (.bool true) ∧ Below w.heap.size w w' := by
 obtain ⟨k, h⟩ := P a0 w0
 refine (targumlaw7_Float11Apart.calls k a0 true w hG h).mono ?_
 rintro e w' ⟨rfl, hd⟩
 exact ⟨rfl, hd⟩

end Go.Proofs.YtkijneohhilboaaDoor.PV
