/- Written by this session's own program (xprint, made over the kit's print): Lean functions with the same answers as the Go functions, and the proofs of that. Not trusted: Lean checks it. -/
import Derived.Test.YtmpdggphhhljhaaDoorPWx0
import Derived.Test.YtmpdggphhhljhaaDoorPWx5
import Derived.Test.YtmpdggphhhljhaaDoorPWx7
import Derived.Test.YtmpdggphhhljhaaDoorXW
namespace Go.Proofs.YtmpdggphhhljhaaDoor.PW
open Go.Proofs.YtmpdggphhhljhaaDoor.XW Go.RowKit Go.Proofs.YtmpdggphhhljhaaDoorW.PrintWords Go.Proofs.YtmpdggphhhljhaaDoorW.PrintLast Go.Proofs.YtmpdggphhhljhaaDoorW.PrintMore
attribute [local go_sem] max2_int min2_int max_two min_two max_three min_three max_four min_four   -- for this text's walks alone
set_option linter.unusedVariables false
set_option linter.unusedSimpArgs false

/-! ### targumlaw1_UtfTurned: function 9 -/
mutual
def targumlaw1_UtfTurned.j0 : Nat → ByteArray → Bool → Bool → Option (Bool)
 | 0, _, _, _ => none
 | k + 1, x0, x1, x18 => if x18 = true then (some true) else ((utf_Encode.f k 2 x0).bind fun t234 => ((utf_Encode.f k 3 x0).bind fun t237 => (if x1 = true then ((utf_Encode.f k 4 x0).bind fun t240 => ((utf_Encode.f k 5 x0).bind fun t243 => (targumlaw1_UtfTurned.j1 k t240 t243 4))) else (targumlaw1_UtfTurned.j1 k t234 t237 2))))
def targumlaw1_UtfTurned.j1 : Nat → List Int → List Int → Int → Option (Bool)
 | 0, _, _, _ => none
 | k + 1, x5, x6, x7 => if (x5.length : Int) = (x6.length : Int) then (if x7 = 0 then (none) else (targumlaw1_UtfTurned.j2 k x5 x6 x7 (((x5.length : Int) % x7) != 0))) else (targumlaw1_UtfTurned.j2 k x5 x6 x7 true)
def targumlaw1_UtfTurned.j2 : Nat → List Int → List Int → Int → Bool → Option (Bool)
 | 0, _, _, _, _ => none
 | k + 1, x5, x6, x7, x39 => if x39 = true then (some false) else (targumlaw1_UtfTurned.l0 k x5 x6 x7 0)
def targumlaw1_UtfTurned.l0 : Nat → List Int → List Int → Int → Int → Option (Bool)
 | 0, _, _, _, _ => none
 | k + 1, x5, x6, x7, x8 => if x8 < (x5.length : Int) then (if 0 ≤ x8 then (if x7 = 0 then (none) else (if 0 ≤ (wrap64 ((wrap64 ((wrap64 ((wrap64 ((wrap64 (Int.tdiv x8 x7)) * x7)) + x7)) - 1)) - (Int.tmod x8 x7))) then (if (wrap64 ((wrap64 ((wrap64 ((wrap64 ((wrap64 (Int.tdiv x8 x7)) * x7)) + x7)) - 1)) - (Int.tmod x8 x7))) < (x6.length : Int) then (if (rd x5 x8) = (rd x6 (wrap64 ((wrap64 ((wrap64 ((wrap64 ((wrap64 (Int.tdiv x8 x7)) * x7)) + x7)) - 1)) - (Int.tmod x8 x7)))) then (targumlaw1_UtfTurned.l0 k x5 x6 x7 (wrap64 (x8 + 1))) else (some false)) else (none)) else (none))) else (none)) else (some true)
end
def targumlaw1_UtfTurned.f (k : Nat) (a0 : ByteArray) (a1 : Bool) : Option (Bool) := (targumlaw1_known.f k).bind fun t232 => (if t232 = true then (if (a0.size : Int) > 300 then (targumlaw1_UtfTurned.j0 k a0 a1 true) else ((targumref1_Well.f k a0).bind fun t233 => (targumlaw1_UtfTurned.j0 k a0 a1 (!t233)))) else (some false))
theorem targumlaw1_UtfTurned.mono_l : ∀ k, (∀ y0 y1 y2, LeO (targumlaw1_UtfTurned.j0 k y0 y1 y2) (targumlaw1_UtfTurned.j0 (k + 1) y0 y1 y2)) ∧ (∀ y0 y1 y2, LeO (targumlaw1_UtfTurned.j1 k y0 y1 y2) (targumlaw1_UtfTurned.j1 (k + 1) y0 y1 y2)) ∧ (∀ y0 y1 y2 y3, LeO (targumlaw1_UtfTurned.j2 k y0 y1 y2 y3) (targumlaw1_UtfTurned.j2 (k + 1) y0 y1 y2 y3)) ∧ (∀ y0 y1 y2 y3, LeO (targumlaw1_UtfTurned.l0 k y0 y1 y2 y3) (targumlaw1_UtfTurned.l0 (k + 1) y0 y1 y2 y3))
 | 0 => ⟨fun _ _ _ r h => by simp [targumlaw1_UtfTurned.j0] at h, fun _ _ _ r h => by simp [targumlaw1_UtfTurned.j1] at h, fun _ _ _ _ r h => by simp [targumlaw1_UtfTurned.j2] at h, fun _ _ _ _ r h => by simp [targumlaw1_UtfTurned.l0] at h⟩
 | k + 1 => by
  obtain ⟨ih0, ih1, ih2, ih3⟩ := targumlaw1_UtfTurned.mono_l k
  refine ⟨?_, ?_, ?_, ?_⟩
  ·intro y0 y1 y2
   unfold targumlaw1_UtfTurned.j0
   repeat' first
   | (with_reducible exact ih0 _ _ _)
   | (with_reducible exact ih1 _ _ _)
   | (with_reducible exact ih2 _ _ _ _)
   | (with_reducible exact ih3 _ _ _ _)
   | (with_reducible exact targumlaw1_known.mono _)
   | (with_reducible exact targumref1_Well.mono _ _)
   | (with_reducible exact utf_Encode.mono _ _ _)
   | (with_reducible exact LeO.refl _)
   | (with_reducible exact LeO.none _)
   | (with_reducible refine LeO.ite ?_ ?_)
   | (with_reducible refine LeO.bind ?_ (fun _ => ?_))
   | exact ih0 _ _ _
   | exact ih1 _ _ _
   | exact ih2 _ _ _ _
   | exact ih3 _ _ _ _
   | exact targumlaw1_known.mono _
   | exact targumref1_Well.mono _ _
   | exact utf_Encode.mono _ _ _
   | exact LeO.none _
   | refine LeO.ite ?_ ?_
   | refine LeO.bind ?_ (fun _ => ?_)
  ·intro y0 y1 y2
   unfold targumlaw1_UtfTurned.j1
   repeat' first
   | (with_reducible exact ih0 _ _ _)
   | (with_reducible exact ih1 _ _ _)
   | (with_reducible exact ih2 _ _ _ _)
   | (with_reducible exact ih3 _ _ _ _)
   | (with_reducible exact targumlaw1_known.mono _)
   | (with_reducible exact targumref1_Well.mono _ _)
   | (with_reducible exact utf_Encode.mono _ _ _)
   | (with_reducible exact LeO.refl _)
   | (with_reducible exact LeO.none _)
   | (with_reducible refine LeO.ite ?_ ?_)
   | (with_reducible refine LeO.bind ?_ (fun _ => ?_))
   | exact ih0 _ _ _
   | exact ih1 _ _ _
   | exact ih2 _ _ _ _
   | exact ih3 _ _ _ _
   | exact targumlaw1_known.mono _
   | exact targumref1_Well.mono _ _
   | exact utf_Encode.mono _ _ _
   | exact LeO.none _
   | refine LeO.ite ?_ ?_
   | refine LeO.bind ?_ (fun _ => ?_)
  ·intro y0 y1 y2 y3
   unfold targumlaw1_UtfTurned.j2
   repeat' first
   | (with_reducible exact ih0 _ _ _)
   | (with_reducible exact ih1 _ _ _)
   | (with_reducible exact ih2 _ _ _ _)
   | (with_reducible exact ih3 _ _ _ _)
   | (with_reducible exact targumlaw1_known.mono _)
   | (with_reducible exact targumref1_Well.mono _ _)
   | (with_reducible exact utf_Encode.mono _ _ _)
   | (with_reducible exact LeO.refl _)
   | (with_reducible exact LeO.none _)
   | (with_reducible refine LeO.ite ?_ ?_)
   | (with_reducible refine LeO.bind ?_ (fun _ => ?_))
   | exact ih0 _ _ _
   | exact ih1 _ _ _
   | exact ih2 _ _ _ _
   | exact ih3 _ _ _ _
   | exact targumlaw1_known.mono _
   | exact targumref1_Well.mono _ _
   | exact utf_Encode.mono _ _ _
   | exact LeO.none _
   | refine LeO.ite ?_ ?_
   | refine LeO.bind ?_ (fun _ => ?_)
  ·intro y0 y1 y2 y3
   unfold targumlaw1_UtfTurned.l0
   repeat' first
   | (with_reducible exact ih0 _ _ _)
   | (with_reducible exact ih1 _ _ _)
   | (with_reducible exact ih2 _ _ _ _)
   | (with_reducible exact ih3 _ _ _ _)
   | (with_reducible exact targumlaw1_known.mono _)
   | (with_reducible exact targumref1_Well.mono _ _)
   | (with_reducible exact utf_Encode.mono _ _ _)
   | (with_reducible exact LeO.refl _)
   | (with_reducible exact LeO.none _)
   | (with_reducible refine LeO.ite ?_ ?_)
   | (with_reducible refine LeO.bind ?_ (fun _ => ?_))
   | exact ih0 _ _ _
   | exact ih1 _ _ _
   | exact ih2 _ _ _ _
   | exact ih3 _ _ _ _
   | exact targumlaw1_known.mono _
   | exact targumref1_Well.mono _ _
   | exact utf_Encode.mono _ _ _
   | exact LeO.none _
   | refine LeO.ite ?_ ?_
   | refine LeO.bind ?_ (fun _ => ?_)
theorem targumlaw1_UtfTurned.mono : ∀ a0 a1 k, LeO (targumlaw1_UtfTurned.f k a0 a1) (targumlaw1_UtfTurned.f (k + 1) a0 a1) := by
 intro a0 a1 k
 obtain ⟨ih0, ih1, ih2, ih3⟩ := targumlaw1_UtfTurned.mono_l k
 unfold targumlaw1_UtfTurned.f
 repeat' first
   | (with_reducible exact ih0 _ _ _)
   | (with_reducible exact ih1 _ _ _)
   | (with_reducible exact ih2 _ _ _ _)
   | (with_reducible exact ih3 _ _ _ _)
   | (with_reducible exact targumlaw1_known.mono _)
   | (with_reducible exact targumref1_Well.mono _ _)
   | (with_reducible exact utf_Encode.mono _ _ _)
   | (with_reducible exact LeO.refl _)
   | (with_reducible exact LeO.none _)
   | (with_reducible refine LeO.ite ?_ ?_)
   | (with_reducible refine LeO.bind ?_ (fun _ => ?_))
   | exact ih0 _ _ _
   | exact ih1 _ _ _
   | exact ih2 _ _ _ _
   | exact ih3 _ _ _ _
   | exact targumlaw1_known.mono _
   | exact targumref1_Well.mono _ _
   | exact utf_Encode.mono _ _ _
   | exact LeO.none _
   | refine LeO.ite ?_ ?_
   | refine LeO.bind ?_ (fun _ => ?_)
set_option maxHeartbeats 8000000 in
set_option maxRecDepth 100000 in
theorem targumlaw1_UtfTurned.calls (k : Nat) (a0 : ByteArray) (a1 : Bool) (r : Bool) (w : World) (hG : Lib.Utf8Tabs 0 1 w) (h : targumlaw1_UtfTurned.f k a0 a1 = some r) :
  Calls Tryd.prog 9 #[.string a0, .bool a1] w fun e w' => e = .returned (.bool r) ∧ Below w.heap.size w w' := by
 have HG := Aside0.mk hG
 clear hG
 have HB := Aside0.mk (Below.refl w.heap.size w)
 have H : ((targumlaw1_known.f k).bind fun t232 => (if t232 = true then (if (a0.size : Int) > 300 then (targumlaw1_UtfTurned.j0 k a0 a1 true) else ((targumref1_Well.f k a0).bind fun t233 => (targumlaw1_UtfTurned.j0 k a0 a1 (!t233)))) else (some false))) = some r := h
 clear h
 replace H := Option.bind_eq_some_iff.mp H
 obtain ⟨t232, A30, H⟩ := H
 replace H : (if t232 = true then (if (a0.size : Int) > 300 then (targumlaw1_UtfTurned.j0 k a0 a1 true) else ((targumref1_Well.f k a0).bind fun t233 => (targumlaw1_UtfTurned.j0 k a0 a1 (!t233)))) else (some false)) = some r := H
 have A3 := Aside0.mk A30
 clear A30
 by_cases c4 : t232 = true
 ·subst c4
  have H1 : (if (a0.size : Int) > 300 then (targumlaw1_UtfTurned.j0 k a0 a1 true) else ((targumref1_Well.f k a0).bind fun t233 => (targumlaw1_UtfTurned.j0 k a0 a1 (!t233)))) = some r := by rw [if_pos rfl] at H; exact H
  clear H
  have H := H1
  clear H1
  have HC5 := Aside0.mk H
  clear H
  go_enter Tryd.func9, Tryd.ntmps9
  go_upto_region 3 with (first | (go_at_call 10; (try (rename_i hK_; simp only [List.append] at hK_)); (with_reducible refine (targumlaw1_known.calls k  true _ ?side1 A3.out).mono ?_); (case side1 => exact Utf8Tabs_below HG.out bl); rintro e w6 ⟨rfl, hb⟩; have n0_ := Aside0.mk (below_step bl hb); clear HB; have HB := n0_; clear n0_; (try clear hb); (try clear hb2); (try clear hk); (try clear hi)))
  repeat (go_quiet (first | (go_at_call 10; (try (rename_i hK_; simp only [List.append] at hK_)); (with_reducible refine (targumlaw1_known.calls k  true _ ?side1 A3.out).mono ?_); (case side1 => exact Utf8Tabs_below HG.out bl); rintro e w6 ⟨rfl, hb⟩; have n0_ := Aside0.mk (below_step bl hb); clear HB; have HB := n0_; clear n0_; (try clear hb); (try clear hb2); (try clear hk); (try clear hi))); go_upto_region 3 with (first | (go_at_call 10; (try (rename_i hK_; simp only [List.append] at hK_)); (with_reducible refine (targumlaw1_known.calls k  true _ ?side1 A3.out).mono ?_); (case side1 => exact Utf8Tabs_below HG.out bl); rintro e w6 ⟨rfl, hb⟩; have n0_ := Aside0.mk (below_step bl hb); clear HB; have HB := n0_; clear n0_; (try clear hb); (try clear hb2); (try clear hk); (try clear hi))))
  (try simp only [Act.put, List.setIfInBounds_toArray, List.set_cons_zero, List.set_cons_succ])
  go_cut [18] (fun v18 wc => ∃ (kq : Nat) (x18_4 : Bool), v18 = .bool x18_4 ∧ Aside0 (targumlaw1_UtfTurned.j0 kq a0 a1 x18_4 = some r) ∧ Aside0 (kq ≤ k) ∧ Aside0 (Below w.heap.size w wc))
  case first =>
   have H := HC5.out
   clear HC5
   by_cases c7 : (a0.size : Int) > 300
   ·rw [if_pos c7] at H
    have c7b0 : decide (300 < (a0.size : Int)) = true := decide_eq_true c7
    have c7b1 : decide (300 < a0.size) = true := decide_eq_true (by omega)
    clear c7
    (first | rw [c7b0] | (simp only [i64_w, i32_w]; rw [c7b0]) | skip)
    have H' := Aside0.mk H
    clear H
    go_wp2
    repeat (go_quiet (fail); try go_wp2)
    go_meet
    case rel => exact ⟨_, (true), (by first | rfl | (simp; done) | (simp [*]; done) | (simp [wrap64]; done)), H', ⟨by first | omega | exact Nat.le_refl _⟩, ⟨bl⟩⟩
   ·rw [if_neg c7] at H
    have c7b0 : decide (300 < (a0.size : Int)) = false := decide_eq_false c7
    have c7b1 : decide (300 < a0.size) = false := decide_eq_false (by omega)
    clear c7
    (first | rw [c7b0] | (simp only [i64_w, i32_w]; rw [c7b0]) | skip)
    replace H := Option.bind_eq_some_iff.mp H
    obtain ⟨t233, A80, H⟩ := H
    replace H : (targumlaw1_UtfTurned.j0 k a0 a1 (!t233)) = some r := H
    have A8 := Aside0.mk A80
    clear A80
    have H' := Aside0.mk H
    clear H
    go_wp2_with (first | (go_at_call 21; (try (rename_i hK_; simp only [List.append] at hK_)); (with_reducible refine (targumref1_Well.calls k a0 t233 _ A8.out).mono ?_); rintro e w' ⟨rfl, ⟨nd, rfl⟩⟩; (try first | exact ⟨rfl, _, World.drewN_drewN _ _ _⟩ | exact ⟨rfl, _, Eq.trans (World.drewN_drewN _ _ _) (congrArg (World.drewN _) (Nat.add_assoc _ _ _))⟩)))
    repeat (go_quiet (first | (go_at_call 21; (try (rename_i hK_; simp only [List.append] at hK_)); (with_reducible refine (targumref1_Well.calls k a0 t233 _ A8.out).mono ?_); rintro e w' ⟨rfl, ⟨nd, rfl⟩⟩; (try first | exact ⟨rfl, _, World.drewN_drewN _ _ _⟩ | exact ⟨rfl, _, Eq.trans (World.drewN_drewN _ _ _) (congrArg (World.drewN _) (Nat.add_assoc _ _ _))⟩))); try go_wp2_with (first | (go_at_call 21; (try (rename_i hK_; simp only [List.append] at hK_)); (with_reducible refine (targumref1_Well.calls k a0 t233 _ A8.out).mono ?_); rintro e w' ⟨rfl, ⟨nd, rfl⟩⟩; (try first | exact ⟨rfl, _, World.drewN_drewN _ _ _⟩ | exact ⟨rfl, _, Eq.trans (World.drewN_drewN _ _ _) (congrArg (World.drewN _) (Nat.add_assoc _ _ _))⟩))))
    go_meet
    case rel => exact ⟨_, (!t233), (by first | rfl | (simp; done) | (simp [*]; done) | (simp [wrap64]; done)), H', ⟨by first | omega | exact Nat.le_refl _⟩, ⟨bl⟩⟩
  case rest =>
   clear HC5
   try clear p2; try clear c4; try clear c7; try clear c7b0; try clear c7b1
   obtain ⟨kq, x18_4, rfl, HA, HJ4, HB⟩ := hcut
   cases kq with
   | zero => exact absurd HA.out (by simp [targumlaw1_UtfTurned.j0])
   | succ kj4 =>
    have H := HA.out
    clear HA
    simp only [targumlaw1_UtfTurned.j0] at H
    by_cases c9 : x18_4 = true
    ·subst c9
     have H1 : (some true) = some r := by rw [if_pos rfl] at H; exact H
     clear H
     have H := H1
     clear H1
     obtain rfl := Option.some.inj H
     go_wp2
     repeat (go_quiet (fail); try go_wp2)
     go_ret
     exact ⟨by first | rfl | (simp [errW_none, errW_some] <;> rfl) | (simp [*, errW_none, errW_some] <;> rfl), bl⟩
    ·replace c9 := Bool.eq_false_iff.mpr c9
     subst c9
     have H1 : ((utf_Encode.f kj4 2 a0).bind fun t234 => ((utf_Encode.f kj4 3 a0).bind fun t237 => (if a1 = true then ((utf_Encode.f kj4 4 a0).bind fun t240 => ((utf_Encode.f kj4 5 a0).bind fun t243 => (targumlaw1_UtfTurned.j1 kj4 t240 t243 4))) else (targumlaw1_UtfTurned.j1 kj4 t234 t237 2)))) = some r := by rw [if_neg (show ¬ (false = true) by decide)] at H; exact H
     clear H
     have H := H1
     clear H1
     replace H := Option.bind_eq_some_iff.mp H
     obtain ⟨t234, A100, H⟩ := H
     replace H : ((utf_Encode.f kj4 3 a0).bind fun t237 => (if a1 = true then ((utf_Encode.f kj4 4 a0).bind fun t240 => ((utf_Encode.f kj4 5 a0).bind fun t243 => (targumlaw1_UtfTurned.j1 kj4 t240 t243 4))) else (targumlaw1_UtfTurned.j1 kj4 t234 t237 2))) = some r := H
     have A10 := Aside0.mk A100
     clear A100
     replace H := Option.bind_eq_some_iff.mp H
     obtain ⟨t237, A110, H⟩ := H
     replace H : (if a1 = true then ((utf_Encode.f kj4 4 a0).bind fun t240 => ((utf_Encode.f kj4 5 a0).bind fun t243 => (targumlaw1_UtfTurned.j1 kj4 t240 t243 4))) else (targumlaw1_UtfTurned.j1 kj4 t234 t237 2)) = some r := H
     have A11 := Aside0.mk A110
     clear A110
     have HC12 := Aside0.mk H
     clear H
     go_upto_if 23 with (first | (go_at_call 16; (try (rename_i hK_; simp only [List.append] at hK_)); (with_reducible refine (utf_Encode.calls kj4 2 a0 t234 _ ?side1 A10.out).mono ?_); (case side1 => exact Utf8Tabs_below HG.out bl); rintro e w13 ⟨v235, rfl, ho0, hb⟩; have n0_ := Aside0.mk (Kd.R_lower ho0 (below_size bl)); have n1_ := Aside0.mk (below_step bl hb); clear HB; have HO236 := n0_; have HB := n1_; clear n0_ n1_; (try clear hb); (try clear hb2); (try clear hk); (try clear hi); (try clear ho0)) | (go_at_call 16; (try (rename_i hK_; simp only [List.append] at hK_)); (with_reducible refine (utf_Encode.calls kj4 3 a0 t237 _ ?side1 A11.out).mono ?_); (case side1 => exact Utf8Tabs_below HG.out bl); rintro e w14 ⟨v238, rfl, ho0, hb⟩; have n0_ := Aside0.mk (Kd.R_elder' (by (with_reducible repeat (first | apply Kd.R_alloc | apply Kd.R_drewN | apply Kd.R_drew)); exact HO236.out) (Kd.R_base ho0) hb); have n1_ := Aside0.mk (Kd.R_lower (Kd.R_new' ho0 (Kd.R_lt (by (with_reducible repeat (first | apply Kd.R_alloc | apply Kd.R_drewN | apply Kd.R_drew)); exact HO236.out))) (below_size bl)); have n2_ := Aside0.mk (below_step bl hb); clear HO236; clear HB; have HO236 := n0_; have HO239 := n1_; have HB := n2_; clear n0_ n1_ n2_; (try clear hb); (try clear hb2); (try clear hk); (try clear hi); (try clear ho0)))
     repeat (go_quiet (first | (go_at_call 16; (try (rename_i hK_; simp only [List.append] at hK_)); (with_reducible refine (utf_Encode.calls kj4 2 a0 t234 _ ?side1 A10.out).mono ?_); (case side1 => exact Utf8Tabs_below HG.out bl); rintro e w13 ⟨v235, rfl, ho0, hb⟩; have n0_ := Aside0.mk (Kd.R_lower ho0 (below_size bl)); have n1_ := Aside0.mk (below_step bl hb); clear HB; have HO236 := n0_; have HB := n1_; clear n0_ n1_; (try clear hb); (try clear hb2); (try clear hk); (try clear hi); (try clear ho0)) | (go_at_call 16; (try (rename_i hK_; simp only [List.append] at hK_)); (with_reducible refine (utf_Encode.calls kj4 3 a0 t237 _ ?side1 A11.out).mono ?_); (case side1 => exact Utf8Tabs_below HG.out bl); rintro e w14 ⟨v238, rfl, ho0, hb⟩; have n0_ := Aside0.mk (Kd.R_elder' (by (with_reducible repeat (first | apply Kd.R_alloc | apply Kd.R_drewN | apply Kd.R_drew)); exact HO236.out) (Kd.R_base ho0) hb); have n1_ := Aside0.mk (Kd.R_lower (Kd.R_new' ho0 (Kd.R_lt (by (with_reducible repeat (first | apply Kd.R_alloc | apply Kd.R_drewN | apply Kd.R_drew)); exact HO236.out))) (below_size bl)); have n2_ := Aside0.mk (below_step bl hb); clear HO236; clear HB; have HO236 := n0_; have HO239 := n1_; have HB := n2_; clear n0_ n1_ n2_; (try clear hb); (try clear hb2); (try clear hk); (try clear hi); (try clear ho0))); go_upto_if 23 with (first | (go_at_call 16; (try (rename_i hK_; simp only [List.append] at hK_)); (with_reducible refine (utf_Encode.calls kj4 2 a0 t234 _ ?side1 A10.out).mono ?_); (case side1 => exact Utf8Tabs_below HG.out bl); rintro e w13 ⟨v235, rfl, ho0, hb⟩; have n0_ := Aside0.mk (Kd.R_lower ho0 (below_size bl)); have n1_ := Aside0.mk (below_step bl hb); clear HB; have HO236 := n0_; have HB := n1_; clear n0_ n1_; (try clear hb); (try clear hb2); (try clear hk); (try clear hi); (try clear ho0)) | (go_at_call 16; (try (rename_i hK_; simp only [List.append] at hK_)); (with_reducible refine (utf_Encode.calls kj4 3 a0 t237 _ ?side1 A11.out).mono ?_); (case side1 => exact Utf8Tabs_below HG.out bl); rintro e w14 ⟨v238, rfl, ho0, hb⟩; have n0_ := Aside0.mk (Kd.R_elder' (by (with_reducible repeat (first | apply Kd.R_alloc | apply Kd.R_drewN | apply Kd.R_drew)); exact HO236.out) (Kd.R_base ho0) hb); have n1_ := Aside0.mk (Kd.R_lower (Kd.R_new' ho0 (Kd.R_lt (by (with_reducible repeat (first | apply Kd.R_alloc | apply Kd.R_drewN | apply Kd.R_drew)); exact HO236.out))) (below_size bl)); have n2_ := Aside0.mk (below_step bl hb); clear HO236; clear HB; have HO236 := n0_; have HO239 := n1_; have HB := n2_; clear n0_ n1_ n2_; (try clear hb); (try clear hb2); (try clear hk); (try clear hi); (try clear ho0))))
     (try simp only [Act.put, List.setIfInBounds_toArray, List.set_cons_zero, List.set_cons_succ])
     go_cut [5, 6, 7] (fun v5 v6 v7 wc => ∃ (kq : Nat) (x5_11 : List Int) (x6_11 : List Int) (x7_11 : Int), v7 = .int .i64 x7_11 ∧ Aside0 (targumlaw1_UtfTurned.j1 kq x5_11 x6_11 x7_11 = some r) ∧ Aside0 (kq ≤ kj4) ∧ Aside0 (Kd.R (Kd.int .u8) 5 wc w.heap.size (fun k_ => some k_ ≠ (v6 : Value).ownBlock) v5 x5_11) ∧ Aside0 (Kd.R (Kd.int .u8) 5 wc w.heap.size (fun k_ => some k_ ≠ (v5 : Value).ownBlock) v6 x6_11) ∧ Aside0 (Below w.heap.size w wc))
     case first =>
      have H := HC12.out
      clear HC12
      by_cases c15 : a1 = true
      ·subst c15
       have H1 : ((utf_Encode.f kj4 4 a0).bind fun t240 => ((utf_Encode.f kj4 5 a0).bind fun t243 => (targumlaw1_UtfTurned.j1 kj4 t240 t243 4))) = some r := by rw [if_pos rfl] at H; exact H
       clear H
       have H := H1
       clear H1
       replace H := Option.bind_eq_some_iff.mp H
       obtain ⟨t240, A160, H⟩ := H
       replace H : ((utf_Encode.f kj4 5 a0).bind fun t243 => (targumlaw1_UtfTurned.j1 kj4 t240 t243 4)) = some r := H
       have A16 := Aside0.mk A160
       clear A160
       replace H := Option.bind_eq_some_iff.mp H
       obtain ⟨t243, A170, H⟩ := H
       replace H : (targumlaw1_UtfTurned.j1 kj4 t240 t243 4) = some r := H
       have A17 := Aside0.mk A170
       clear A170
       have H' := Aside0.mk H
       clear H
       go_wp2_with (first | (go_at_call 16; (try (rename_i hK_; simp only [List.append] at hK_)); (with_reducible refine (utf_Encode.calls kj4 4 a0 t240 _ ?side1 A16.out).mono ?_); (case side1 => exact Utf8Tabs_below HG.out bl); rintro e w18 ⟨v241, rfl, ho0, hb⟩; have n0_ := Aside0.mk (Kd.R_elder' (by (with_reducible repeat (first | apply Kd.R_alloc | apply Kd.R_drewN | apply Kd.R_drew)); exact HO236.out) (Kd.R_base ho0) hb); have n1_ := Aside0.mk (Kd.R_elder' (by (with_reducible repeat (first | apply Kd.R_alloc | apply Kd.R_drewN | apply Kd.R_drew)); exact HO239.out) (Kd.R_base ho0) hb); have n2_ := Aside0.mk (Kd.R_lower (Kd.R_new' (Kd.R_new' ho0 (Kd.R_lt (by (with_reducible repeat (first | apply Kd.R_alloc | apply Kd.R_drewN | apply Kd.R_drew)); exact HO236.out))) (Kd.R_lt (by (with_reducible repeat (first | apply Kd.R_alloc | apply Kd.R_drewN | apply Kd.R_drew)); exact HO239.out))) (below_size bl)); have n3_ := Aside0.mk (below_step bl hb); clear HO236; clear HO239; clear HB; have HO236 := n0_; have HO239 := n1_; have HO242 := n2_; have HB := n3_; clear n0_ n1_ n2_ n3_; (try clear hb); (try clear hb2); (try clear hk); (try clear hi); (try clear ho0)) | (go_at_call 16; (try (rename_i hK_; simp only [List.append] at hK_)); (with_reducible refine (utf_Encode.calls kj4 5 a0 t243 _ ?side1 A17.out).mono ?_); (case side1 => exact Utf8Tabs_below HG.out bl); rintro e w19 ⟨v244, rfl, ho0, hb⟩; have n0_ := Aside0.mk (Kd.R_elder' (by (with_reducible repeat (first | apply Kd.R_alloc | apply Kd.R_drewN | apply Kd.R_drew)); exact HO236.out) (Kd.R_base ho0) hb); have n1_ := Aside0.mk (Kd.R_elder' (by (with_reducible repeat (first | apply Kd.R_alloc | apply Kd.R_drewN | apply Kd.R_drew)); exact HO239.out) (Kd.R_base ho0) hb); have n2_ := Aside0.mk (Kd.R_elder' (by (with_reducible repeat (first | apply Kd.R_alloc | apply Kd.R_drewN | apply Kd.R_drew)); exact HO242.out) (Kd.R_base ho0) hb); have n3_ := Aside0.mk (Kd.R_lower (Kd.R_new' (Kd.R_new' (Kd.R_new' ho0 (Kd.R_lt (by (with_reducible repeat (first | apply Kd.R_alloc | apply Kd.R_drewN | apply Kd.R_drew)); exact HO236.out))) (Kd.R_lt (by (with_reducible repeat (first | apply Kd.R_alloc | apply Kd.R_drewN | apply Kd.R_drew)); exact HO239.out))) (Kd.R_lt (by (with_reducible repeat (first | apply Kd.R_alloc | apply Kd.R_drewN | apply Kd.R_drew)); exact HO242.out))) (below_size bl)); have n4_ := Aside0.mk (below_step bl hb); clear HO236; clear HO239; clear HO242; clear HB; have HO236 := n0_; have HO239 := n1_; have HO242 := n2_; have HO245 := n3_; have HB := n4_; clear n0_ n1_ n2_ n3_ n4_; (try clear hb); (try clear hb2); (try clear hk); (try clear hi); (try clear ho0)))
       repeat (go_quiet (first | (go_at_call 16; (try (rename_i hK_; simp only [List.append] at hK_)); (with_reducible refine (utf_Encode.calls kj4 4 a0 t240 _ ?side1 A16.out).mono ?_); (case side1 => exact Utf8Tabs_below HG.out bl); rintro e w18 ⟨v241, rfl, ho0, hb⟩; have n0_ := Aside0.mk (Kd.R_elder' (by (with_reducible repeat (first | apply Kd.R_alloc | apply Kd.R_drewN | apply Kd.R_drew)); exact HO236.out) (Kd.R_base ho0) hb); have n1_ := Aside0.mk (Kd.R_elder' (by (with_reducible repeat (first | apply Kd.R_alloc | apply Kd.R_drewN | apply Kd.R_drew)); exact HO239.out) (Kd.R_base ho0) hb); have n2_ := Aside0.mk (Kd.R_lower (Kd.R_new' (Kd.R_new' ho0 (Kd.R_lt (by (with_reducible repeat (first | apply Kd.R_alloc | apply Kd.R_drewN | apply Kd.R_drew)); exact HO236.out))) (Kd.R_lt (by (with_reducible repeat (first | apply Kd.R_alloc | apply Kd.R_drewN | apply Kd.R_drew)); exact HO239.out))) (below_size bl)); have n3_ := Aside0.mk (below_step bl hb); clear HO236; clear HO239; clear HB; have HO236 := n0_; have HO239 := n1_; have HO242 := n2_; have HB := n3_; clear n0_ n1_ n2_ n3_; (try clear hb); (try clear hb2); (try clear hk); (try clear hi); (try clear ho0)) | (go_at_call 16; (try (rename_i hK_; simp only [List.append] at hK_)); (with_reducible refine (utf_Encode.calls kj4 5 a0 t243 _ ?side1 A17.out).mono ?_); (case side1 => exact Utf8Tabs_below HG.out bl); rintro e w19 ⟨v244, rfl, ho0, hb⟩; have n0_ := Aside0.mk (Kd.R_elder' (by (with_reducible repeat (first | apply Kd.R_alloc | apply Kd.R_drewN | apply Kd.R_drew)); exact HO236.out) (Kd.R_base ho0) hb); have n1_ := Aside0.mk (Kd.R_elder' (by (with_reducible repeat (first | apply Kd.R_alloc | apply Kd.R_drewN | apply Kd.R_drew)); exact HO239.out) (Kd.R_base ho0) hb); have n2_ := Aside0.mk (Kd.R_elder' (by (with_reducible repeat (first | apply Kd.R_alloc | apply Kd.R_drewN | apply Kd.R_drew)); exact HO242.out) (Kd.R_base ho0) hb); have n3_ := Aside0.mk (Kd.R_lower (Kd.R_new' (Kd.R_new' (Kd.R_new' ho0 (Kd.R_lt (by (with_reducible repeat (first | apply Kd.R_alloc | apply Kd.R_drewN | apply Kd.R_drew)); exact HO236.out))) (Kd.R_lt (by (with_reducible repeat (first | apply Kd.R_alloc | apply Kd.R_drewN | apply Kd.R_drew)); exact HO239.out))) (Kd.R_lt (by (with_reducible repeat (first | apply Kd.R_alloc | apply Kd.R_drewN | apply Kd.R_drew)); exact HO242.out))) (below_size bl)); have n4_ := Aside0.mk (below_step bl hb); clear HO236; clear HO239; clear HO242; clear HB; have HO236 := n0_; have HO239 := n1_; have HO242 := n2_; have HO245 := n3_; have HB := n4_; clear n0_ n1_ n2_ n3_ n4_; (try clear hb); (try clear hb2); (try clear hk); (try clear hi); (try clear ho0))); try go_wp2_with (first | (go_at_call 16; (try (rename_i hK_; simp only [List.append] at hK_)); (with_reducible refine (utf_Encode.calls kj4 4 a0 t240 _ ?side1 A16.out).mono ?_); (case side1 => exact Utf8Tabs_below HG.out bl); rintro e w18 ⟨v241, rfl, ho0, hb⟩; have n0_ := Aside0.mk (Kd.R_elder' (by (with_reducible repeat (first | apply Kd.R_alloc | apply Kd.R_drewN | apply Kd.R_drew)); exact HO236.out) (Kd.R_base ho0) hb); have n1_ := Aside0.mk (Kd.R_elder' (by (with_reducible repeat (first | apply Kd.R_alloc | apply Kd.R_drewN | apply Kd.R_drew)); exact HO239.out) (Kd.R_base ho0) hb); have n2_ := Aside0.mk (Kd.R_lower (Kd.R_new' (Kd.R_new' ho0 (Kd.R_lt (by (with_reducible repeat (first | apply Kd.R_alloc | apply Kd.R_drewN | apply Kd.R_drew)); exact HO236.out))) (Kd.R_lt (by (with_reducible repeat (first | apply Kd.R_alloc | apply Kd.R_drewN | apply Kd.R_drew)); exact HO239.out))) (below_size bl)); have n3_ := Aside0.mk (below_step bl hb); clear HO236; clear HO239; clear HB; have HO236 := n0_; have HO239 := n1_; have HO242 := n2_; have HB := n3_; clear n0_ n1_ n2_ n3_; (try clear hb); (try clear hb2); (try clear hk); (try clear hi); (try clear ho0)) | (go_at_call 16; (try (rename_i hK_; simp only [List.append] at hK_)); (with_reducible refine (utf_Encode.calls kj4 5 a0 t243 _ ?side1 A17.out).mono ?_); (case side1 => exact Utf8Tabs_below HG.out bl); rintro e w19 ⟨v244, rfl, ho0, hb⟩; have n0_ := Aside0.mk (Kd.R_elder' (by (with_reducible repeat (first | apply Kd.R_alloc | apply Kd.R_drewN | apply Kd.R_drew)); exact HO236.out) (Kd.R_base ho0) hb); have n1_ := Aside0.mk (Kd.R_elder' (by (with_reducible repeat (first | apply Kd.R_alloc | apply Kd.R_drewN | apply Kd.R_drew)); exact HO239.out) (Kd.R_base ho0) hb); have n2_ := Aside0.mk (Kd.R_elder' (by (with_reducible repeat (first | apply Kd.R_alloc | apply Kd.R_drewN | apply Kd.R_drew)); exact HO242.out) (Kd.R_base ho0) hb); have n3_ := Aside0.mk (Kd.R_lower (Kd.R_new' (Kd.R_new' (Kd.R_new' ho0 (Kd.R_lt (by (with_reducible repeat (first | apply Kd.R_alloc | apply Kd.R_drewN | apply Kd.R_drew)); exact HO236.out))) (Kd.R_lt (by (with_reducible repeat (first | apply Kd.R_alloc | apply Kd.R_drewN | apply Kd.R_drew)); exact HO239.out))) (Kd.R_lt (by (with_reducible repeat (first | apply Kd.R_alloc | apply Kd.R_drewN | apply Kd.R_drew)); exact HO242.out))) (below_size bl)); have n4_ := Aside0.mk (below_step bl hb); clear HO236; clear HO239; clear HO242; clear HB; have HO236 := n0_; have HO239 := n1_; have HO242 := n2_; have HO245 := n3_; have HB := n4_; clear n0_ n1_ n2_ n3_ n4_; (try clear hb); (try clear hb2); (try clear hk); (try clear hi); (try clear ho0))))
       go_meet
       case rel => exact ⟨_, (t240), (t243), (4), (by first | rfl | (simp; done) | (simp [*]; done) | (simp [wrap64]; done)), H', ⟨by have := HJ4.out; first | omega | exact Nat.le_refl _⟩, ⟨by (with_reducible repeat (first | apply Kd.R_alloc | apply Kd.R_drewN | apply Kd.R_drew)); exact Kd.R_mono HO242.out (fun _ hk => hk.2)⟩, ⟨by (with_reducible repeat (first | apply Kd.R_alloc | apply Kd.R_drewN | apply Kd.R_drew)); exact Kd.R_mono HO245.out (fun _ hk => hk.2)⟩, ⟨bl⟩⟩
      ·replace c15 := Bool.eq_false_iff.mpr c15
       subst c15
       have H1 : (targumlaw1_UtfTurned.j1 kj4 t234 t237 2) = some r := by rw [if_neg (show ¬ (false = true) by decide)] at H; exact H
       clear H
       have H := H1
       clear H1
       have H' := Aside0.mk H
       clear H
       go_wp2
       repeat (go_quiet (fail); try go_wp2)
       go_meet
       case rel => exact ⟨_, (t234), (t237), (2), (by first | rfl | (simp; done) | (simp [*]; done) | (simp [wrap64]; done)), H', ⟨by have := HJ4.out; first | omega | exact Nat.le_refl _⟩, ⟨by (with_reducible repeat (first | apply Kd.R_alloc | apply Kd.R_drewN | apply Kd.R_drew)); exact Kd.R_mono HO236.out (fun _ hk => hk.2)⟩, ⟨by (with_reducible repeat (first | apply Kd.R_alloc | apply Kd.R_drewN | apply Kd.R_drew)); exact Kd.R_mono HO239.out (fun _ hk => hk.2)⟩, ⟨bl⟩⟩
     case rest =>
      clear HC12
      try clear c1; try clear p2; try clear c4; try clear c7; try clear c7b0; try clear c7b1; try clear c9; try clear c15; try clear p2
      obtain ⟨kq, x5_11, x6_11, x7_11, rfl, HA, HJ11, HO_5, HO_6, HB⟩ := hcut
      cases kq with
      | zero => exact absurd HA.out (by simp [targumlaw1_UtfTurned.j1])
      | succ kj11 =>
       have H := HA.out
       clear HA
       simp only [targumlaw1_UtfTurned.j1] at H
       have HC20 := Aside0.mk H
       clear H
       go_upto_region 8 with (fail)
       repeat (go_quiet (fail); go_upto_region 8 with (fail))
       go_cut [39] (fun v39 wc => ∃ (kq : Nat) (x39_19 : Bool), v39 = .bool x39_19 ∧ Aside0 (targumlaw1_UtfTurned.j2 kq x5_11 x6_11 x7_11 x39_19 = some r) ∧ Aside0 (kq ≤ kj11) ∧ Aside0 (Kd.R (Kd.int .u8) 5 wc w.heap.size (fun k_ => some k_ ≠ (u6 : Value).ownBlock) u5 x5_11) ∧ Aside0 (Kd.R (Kd.int .u8) 5 wc w.heap.size (fun k_ => some k_ ≠ (u5 : Value).ownBlock) u6 x6_11) ∧ Aside0 (Below w.heap.size w wc))
       case first =>
        have H := HC20.out
        clear HC20
        by_cases c21 : (x5_11.length : Int) = (x6_11.length : Int)
        ·rw [if_pos c21] at H
         have c21b0 : ((x5_11.length : Int) == (x6_11.length : Int)) = true := beq_iff_eq.mpr c21
         have c21b1 : ((x5_11.length : Int) != (x6_11.length : Int)) = false := bne_eq_false_iff_eq.mpr c21
         have c21b2 : (x5_11.length == x6_11.length) = true := by first | simpa using c21 | (simp at c21 ⊢; omega)
         clear c21
         (first | rw [c21b0] | (simp only [i64_w, i32_w]; rw [c21b0]) | skip)
         by_cases c22 : x7_11 = 0
         ·rw [if_pos c22] at H
          exact absurd H (by simp)
         ·rw [if_neg c22] at H
          have c22b0 : (x7_11 == 0) = false := beq_eq_false_iff_ne.mpr c22
          have c22b1 : (x7_11 != 0) = true := bne_iff_ne.mpr c22
          have H' := Aside0.mk H
          clear H
          obtain ⟨Ao23, co23, eo23⟩ := Kd.R_slice HO_5.out
          subst eo23
          obtain ⟨Ao24, co24, eo24⟩ := Kd.R_slice HO_6.out
          subst eo24
          go_wp2
          repeat (go_quiet (fail); try go_wp2)
          go_meet
          case rel => exact ⟨_, ((((x5_11.length : Int) % x7_11) != 0)), (by first | rfl | (simp; done) | (simp [*]; done) | (simp [wrap64]; done)), H', ⟨by have := HJ4.out; have := HJ11.out; first | omega | exact Nat.le_refl _⟩, ⟨by (with_reducible repeat (first | apply Kd.R_alloc | apply Kd.R_drewN | apply Kd.R_drew)); exact HO_5.out⟩, ⟨by (with_reducible repeat (first | apply Kd.R_alloc | apply Kd.R_drewN | apply Kd.R_drew)); exact HO_6.out⟩, ⟨bl⟩⟩
        ·rw [if_neg c21] at H
         have c21b0 : ((x5_11.length : Int) == (x6_11.length : Int)) = false := beq_eq_false_iff_ne.mpr c21
         have c21b1 : ((x5_11.length : Int) != (x6_11.length : Int)) = true := bne_iff_ne.mpr c21
         have c21b2 : (x5_11.length == x6_11.length) = false := by first | simpa using c21 | (simp at c21 ⊢; omega)
         (first | rw [c21b0] | (simp only [i64_w, i32_w]; rw [c21b0]) | skip)
         have H' := Aside0.mk H
         clear H
         obtain ⟨Ao25, co25, eo25⟩ := Kd.R_slice HO_5.out
         subst eo25
         obtain ⟨Ao26, co26, eo26⟩ := Kd.R_slice HO_6.out
         subst eo26
         go_wp2
         repeat (go_quiet (fail); try go_wp2)
         go_meet
         case rel => exact ⟨_, (true), (by first | rfl | (simp; done) | (simp [*]; done) | (simp [wrap64]; done)), H', ⟨by have := HJ4.out; have := HJ11.out; first | omega | exact Nat.le_refl _⟩, ⟨by (with_reducible repeat (first | apply Kd.R_alloc | apply Kd.R_drewN | apply Kd.R_drew)); exact HO_5.out⟩, ⟨by (with_reducible repeat (first | apply Kd.R_alloc | apply Kd.R_drewN | apply Kd.R_drew)); exact HO_6.out⟩, ⟨bl⟩⟩
       case rest =>
        clear HC20
        try clear c1; try clear c2; try clear p2; try clear c4; try clear c7; try clear c7b0; try clear c7b1; try clear c9; try clear c15; try clear c21; try clear c21b0; try clear c21b1; try clear c21b2; try clear c22; try clear c22b0; try clear c22b1; try clear p2
        obtain ⟨kq, x39_19, rfl, HA, HJ19, HO_5, HO_6, HB⟩ := hcut
        cases kq with
        | zero => exact absurd HA.out (by simp [targumlaw1_UtfTurned.j2])
        | succ kj19 =>
         have H := HA.out
         clear HA
         simp only [targumlaw1_UtfTurned.j2] at H
         by_cases c27 : x39_19 = true
         ·subst c27
          have H1 : (some false) = some r := by rw [if_pos rfl] at H; exact H
          clear H
          have H := H1
          clear H1
          obtain rfl := Option.some.inj H
          go_wp2
          repeat (go_quiet (fail); try go_wp2)
          go_ret
          exact ⟨by first | rfl | (simp [errW_none, errW_some] <;> rfl) | (simp [*, errW_none, errW_some] <;> rfl), bl⟩
         ·replace c27 := Bool.eq_false_iff.mpr c27
          subst c27
          have H1 : (targumlaw1_UtfTurned.l0 kj19 x5_11 x6_11 x7_11 0) = some r := by rw [if_neg (show ¬ (false = true) by decide)] at H; exact H
          clear H
          have H := H1
          clear H1
          have H' := Aside0.mk H
          clear H
          go_wp2
          repeat (go_quiet (fail); try go_wp2)
          go_loopg [8] kj19 (fun kq v8 w' => ∃ (x8_4 : Int), v8 = .int .i64 x8_4 ∧ Aside0 (targumlaw1_UtfTurned.l0 kq x5_11 x6_11 x7_11 x8_4 = some r) ∧ Aside0 (kq ≤ kj19) ∧ Aside0 (Kd.R (Kd.int .u8) 5 w' w.heap.size (fun k_ => some k_ ≠ (u6 : Value).ownBlock) u5 x5_11) ∧ Aside0 (Kd.R (Kd.int .u8) 5 w' w.heap.size (fun k_ => some k_ ≠ (u5 : Value).ownBlock) u6 x6_11) ∧ Aside0 (Below w.heap.size w w'))
          case atStart => exact ⟨(0), (by first | rfl | (simp; done) | (simp [*]; done) | (simp [wrap64]; done)), H', ⟨Nat.le_refl _⟩, ⟨by (with_reducible repeat (first | apply Kd.R_alloc | apply Kd.R_drewN | apply Kd.R_drew)); exact HO_5.out⟩, ⟨by (with_reducible repeat (first | apply Kd.R_alloc | apply Kd.R_drewN | apply Kd.R_drew)); exact HO_6.out⟩, ⟨bl⟩⟩
          case round =>
           clear H'
           try clear c1; try clear c2; try clear p2; try clear c4; try clear c7; try clear c7b0; try clear c7b1; try clear c9; try clear c15; try clear c21; try clear c21b0; try clear c21b1; try clear c21b2; try clear c22; try clear c22b0; try clear c22b1; try clear c27; try clear p2
           obtain ⟨x8_4, rfl, HA, HK4, HO_5, HO_6, HB⟩ := hrel
           cases gk with
           | zero => exact absurd HA.out (by simp [targumlaw1_UtfTurned.l0])
           | succ k4 =>
            have H := HA.out
            clear HA
            simp only [targumlaw1_UtfTurned.l0] at H
            by_cases c28 : x8_4 < (x5_11.length : Int)
            ·rw [if_pos c28] at H
             have c28b0 : decide (x8_4 < (x5_11.length : Int)) = true := decide_eq_true c28
             clear c28
             by_cases c29 : 0 ≤ x8_4
             ·rw [if_pos c29] at H
              have c29b0 : decide (0 ≤ x8_4) = true := decide_eq_true c29
              clear c29
              by_cases c30 : x7_11 = 0
              ·rw [if_pos c30] at H
               exact absurd H (by simp)
              ·rw [if_neg c30] at H
               have c30b0 : (x7_11 == 0) = false := beq_eq_false_iff_ne.mpr c30
               have c30b1 : (x7_11 != 0) = true := bne_iff_ne.mpr c30
               obtain ⟨ji31, hji31⟩ : ∃ j_ : Int, (wrap64 ((wrap64 ((wrap64 ((wrap64 ((wrap64 (Int.tdiv x8_4 x7_11)) * x7_11)) + x7_11)) - 1)) - (Int.tmod x8_4 x7_11))) = j_ := ⟨_, rfl⟩
               replace H : (if 0 ≤ (ji31) then (if (ji31) < (x6_11.length : Int) then (if (rd x5_11 x8_4) = (rd x6_11 (ji31)) then (targumlaw1_UtfTurned.l0 k4 x5_11 x6_11 x7_11 (wrap64 (x8_4 + 1))) else (some false)) else (none)) else (none)) = some r := by first | (rw [hji31] at H; exact H) | (simp only [hji31] at H ⊢; exact H)
               have hji31w : (IntKind.i64.wrap ((wrap64 ((wrap64 ((wrap64 ((wrap64 (Int.tdiv x8_4 x7_11)) * x7_11)) + x7_11)) - 1)) - (Int.tmod x8_4 x7_11))) = ji31 := (i64_w _).trans hji31
               by_cases c32 : 0 ≤ (ji31)
               ·rw [if_pos c32] at H
                have c32b0 : decide (0 ≤ (ji31)) = true := decide_eq_true c32
                clear c32
                by_cases c33 : (ji31) < (x6_11.length : Int)
                ·rw [if_pos c33] at H
                 have c33b0 : decide ((ji31) < (x6_11.length : Int)) = true := decide_eq_true c33
                 clear c33
                 by_cases c34 : (rd x5_11 x8_4) = (rd x6_11 (ji31))
                 ·rw [if_pos c34] at H
                  have c34b0 : ((rd x5_11 x8_4) == (rd x6_11 (ji31))) = true := beq_iff_eq.mpr c34
                  have c34b1 : ((rd x5_11 x8_4) != (rd x6_11 (ji31))) = false := bne_eq_false_iff_eq.mpr c34
                  clear c34
                  have H' := Aside0.mk H
                  clear H
                  obtain ⟨Ao35, co35, eo35⟩ := Kd.R_slice HO_5.out
                  subst eo35
                  have p246 : 0 ≤ (x8_4 : Int) := of_decide_eq_true (by first | (with_reducible assumption) | assumption)
                  have q246 : x8_4 < (x5_11.length : Int) := of_decide_eq_true (by first | (with_reducible assumption) | assumption)
                  obtain ⟨ad246, e246, hx246_0⟩ := Kd.at_int (Kd.R_reads' HO_5.out).2.2 x8_4 p246 q246
                  cases e246
                  replace p246 := eq_true p246
                  replace q246 := eq_true q246
                  obtain ⟨Ao36, co36, eo36⟩ := Kd.R_slice HO_6.out
                  subst eo36
                  have p247 : 0 ≤ ((ji31) : Int) := of_decide_eq_true (by first | (with_reducible assumption) | assumption)
                  have q247 : (ji31) < (x6_11.length : Int) := of_decide_eq_true (by first | (with_reducible assumption) | assumption)
                  obtain ⟨ad247, e247, hx247_0⟩ := Kd.at_int (Kd.R_reads' HO_6.out).2.2 (ji31) p247 q247
                  cases e247
                  replace p247 := eq_true p247
                  replace q247 := eq_true q247
                  go_wp2
                  repeat (go_quiet (fail); try go_wp2)
                  go_roundg k4
                  case measure => have := HJ4.out; have := HJ11.out; have := HJ19.out; have := HK4.out; omega
                  case rel => exact ⟨(wrap64 (x8_4 + 1)), (by first | rfl | (simp; done) | (simp [*]; done) | (simp [wrap64]; done)), H', ⟨by have := HJ4.out; have := HJ11.out; have := HJ19.out; have := HK4.out; omega⟩, ⟨by (with_reducible repeat (first | apply Kd.R_alloc | apply Kd.R_drewN | apply Kd.R_drew)); exact HO_5.out⟩, ⟨by (with_reducible repeat (first | apply Kd.R_alloc | apply Kd.R_drewN | apply Kd.R_drew)); exact HO_6.out⟩, ⟨bl⟩⟩
                 ·rw [if_neg c34] at H
                  have c34b0 : ((rd x5_11 x8_4) == (rd x6_11 (ji31))) = false := beq_eq_false_iff_ne.mpr c34
                  have c34b1 : ((rd x5_11 x8_4) != (rd x6_11 (ji31))) = true := bne_iff_ne.mpr c34
                  obtain rfl := Option.some.inj H
                  obtain ⟨Ao37, co37, eo37⟩ := Kd.R_slice HO_5.out
                  subst eo37
                  have p246 : 0 ≤ (x8_4 : Int) := of_decide_eq_true (by first | (with_reducible assumption) | assumption)
                  have q246 : x8_4 < (x5_11.length : Int) := of_decide_eq_true (by first | (with_reducible assumption) | assumption)
                  obtain ⟨ad246, e246, hx246_0⟩ := Kd.at_int (Kd.R_reads' HO_5.out).2.2 x8_4 p246 q246
                  cases e246
                  replace p246 := eq_true p246
                  replace q246 := eq_true q246
                  obtain ⟨Ao38, co38, eo38⟩ := Kd.R_slice HO_6.out
                  subst eo38
                  have p247 : 0 ≤ ((ji31) : Int) := of_decide_eq_true (by first | (with_reducible assumption) | assumption)
                  have q247 : (ji31) < (x6_11.length : Int) := of_decide_eq_true (by first | (with_reducible assumption) | assumption)
                  obtain ⟨ad247, e247, hx247_0⟩ := Kd.at_int (Kd.R_reads' HO_6.out).2.2 (ji31) p247 q247
                  cases e247
                  replace p247 := eq_true p247
                  replace q247 := eq_true q247
                  go_wp2
                  repeat (go_quiet (fail); try go_wp2)
                  go_ret
                  exact ⟨by first | rfl | (simp [errW_none, errW_some] <;> rfl) | (simp only [← hji31]; first | rfl | (simp [errW_none, errW_some] <;> rfl)) | (simp [*, errW_none, errW_some] <;> rfl), bl⟩
                ·rw [if_neg c33] at H
                 exact absurd H (by simp)
               ·rw [if_neg c32] at H
                exact absurd H (by simp)
             ·rw [if_neg c29] at H
              exact absurd H (by simp)
            ·rw [if_neg c28] at H
             have c28b0 : decide (x8_4 < (x5_11.length : Int)) = false := decide_eq_false c28
             clear c28
             obtain rfl := Option.some.inj H
             obtain ⟨Ao39, co39, eo39⟩ := Kd.R_slice HO_5.out
             subst eo39
             go_wp2
             repeat (go_quiet (fail); try go_wp2)
             go_ret
             exact ⟨by first | rfl | (simp [errW_none, errW_some] <;> rfl) | (simp [*, errW_none, errW_some] <;> rfl), bl⟩
 ·replace c4 := Bool.eq_false_iff.mpr c4
  subst c4
  have H1 : (some false) = some r := by rw [if_neg (show ¬ (false = true) by decide)] at H; exact H
  clear H
  have H := H1
  clear H1
  obtain rfl := Option.some.inj H
  go_enter Tryd.func9, Tryd.ntmps9
  go_wp2_with (first | (go_at_call 10; (try (rename_i hK_; simp only [List.append] at hK_)); (with_reducible refine (targumlaw1_known.calls k  false _ ?side1 A3.out).mono ?_); (case side1 => exact Utf8Tabs_below HG.out bl); rintro e w40 ⟨rfl, hb⟩; have n0_ := Aside0.mk (below_step bl hb); clear HB; have HB := n0_; clear n0_; (try clear hb); (try clear hb2); (try clear hk); (try clear hi)))
  repeat (go_quiet (first | (go_at_call 10; (try (rename_i hK_; simp only [List.append] at hK_)); (with_reducible refine (targumlaw1_known.calls k  false _ ?side1 A3.out).mono ?_); (case side1 => exact Utf8Tabs_below HG.out bl); rintro e w40 ⟨rfl, hb⟩; have n0_ := Aside0.mk (below_step bl hb); clear HB; have HB := n0_; clear n0_; (try clear hb); (try clear hb2); (try clear hk); (try clear hi))); try go_wp2_with (first | (go_at_call 10; (try (rename_i hK_; simp only [List.append] at hK_)); (with_reducible refine (targumlaw1_known.calls k  false _ ?side1 A3.out).mono ?_); (case side1 => exact Utf8Tabs_below HG.out bl); rintro e w40 ⟨rfl, hb⟩; have n0_ := Aside0.mk (below_step bl hb); clear HB; have HB := n0_; clear n0_; (try clear hb); (try clear hb2); (try clear hk); (try clear hi))))
  go_ret
  exact ⟨by first | rfl | (simp [errW_none, errW_some] <;> rfl) | (simp [*, errW_none, errW_some] <;> rfl), bl⟩

/-- THE ONE PURE STATEMENT of targumlaw1_UtfTurned: yours. -/
def targumlaw1_UtfTurned.Pure : Prop := ∀ (a0 : ByteArray) (a1 : Bool), a0.size ≤ 140737488351232 → ∃ k, targumlaw1_UtfTurned.f k a0 a1 = some true
theorem targumlaw1_UtfTurned.walk (P : targumlaw1_UtfTurned.Pure) (a0 : ByteArray) (a1 : Bool) (w : World) (w0 : a0.size ≤ 140737488351232) (hG : Lib.Utf8Tabs 0 1 w) :
  Calls Tryd.prog 9 #[.string a0, .bool a1] w fun e w' => e = .returned (.bool true) ∧ Below w.heap.size w w' := by
 obtain ⟨k, h⟩ := P a0 a1 w0
 refine (targumlaw1_UtfTurned.calls k a0 a1 true w hG h).mono ?_
 rintro e w' ⟨rfl, hd⟩
 exact ⟨rfl, hd⟩

end Go.Proofs.YtmpdggphhhljhaaDoor.PW
