/- Written by this session's own program (xprint, made over the kit's print): Lean functions with the same answers as the Go functions, and the proofs of that. Not trusted: Lean checks it. -/
import Derived.Test.YtddaggnomcoejaaDoorPDx0
import Derived.Test.YtddaggnomcoejaaDoorPDx1
import Derived.Test.YtddaggnomcoejaaDoorPDx2
import Derived.Test.YtddaggnomcoejaaDoorPDx3
import Derived.Test.YtddaggnomcoejaaDoorXW
namespace Go.Proofs.YtddaggnomcoejaaDoor.PD
open Go.Proofs.YtddaggnomcoejaaDoor.XW Go.RowKit Go.Proofs.YtddaggnomcoejaaDoorW.PrintWords Go.Proofs.YtddaggnomcoejaaDoorW.PrintLast Go.Proofs.YtddaggnomcoejaaDoorW.PrintMore
attribute [local go_sem] max2_int min2_int max_two min_two max_three min_three max_four min_four   -- for this text's walks alone
attribute [local go_sem high] Go.Proofs.YtddaggnomcoejaaDoor.XW.cell_twice
set_option linter.unusedVariables false
set_option linter.unusedSimpArgs false

attribute [local go_sem high] eqA40
/-! ### stringslite_Cut: function 74 -/
def stringslite_Cut.f (a0 : ByteArray) (a1 : ByteArray) : Option (ByteArray × ByteArray × Bool) := (stringslite_Index.f a0 a1).bind fun t146 => (if t146 ≥ 0 then (if 0 ≤ t146 then (if t146 ≤ (a0.size : Int) then (if 0 ≤ (wrap64 (t146 + (a1.size : Int))) then (if (wrap64 (t146 + (a1.size : Int))) ≤ (a0.size : Int) then (some (a0.extract 0 (t146 : Int).toNat, a0.extract ((wrap64 (t146 + (a1.size : Int))) : Int).toNat a0.size, true)) else (none)) else (none)) else (none)) else (none)) else (some (a0, (⟨#[]⟩ : ByteArray), false)))
set_option maxHeartbeats 8000000 in
set_option maxRecDepth 100000 in
theorem stringslite_Cut.calls (a0 : ByteArray) (a1 : ByteArray) (r1 : ByteArray) (r2 : ByteArray) (r3 : Bool) (w : World) (hG : Go.Proofs.YtddaggnomcoejaaDoor.PDT.Tabs w) (h : stringslite_Cut.f a0 a1 = some (r1, r2, r3)) :
  Calls Tryd.prog 74 #[.string a0, .string a1] w fun e w' => e = .returned (.tuple #[.string r1, .string r2, .bool r3]) ∧ Below w.heap.size w w' := by
 have HG := Aside0.mk hG
 clear hG
 have HB := Aside0.mk (Below.refl w.heap.size w)
 have H : ((stringslite_Index.f a0 a1).bind fun t146 => (if t146 ≥ 0 then (if 0 ≤ t146 then (if t146 ≤ (a0.size : Int) then (if 0 ≤ (wrap64 (t146 + (a1.size : Int))) then (if (wrap64 (t146 + (a1.size : Int))) ≤ (a0.size : Int) then (some (a0.extract 0 (t146 : Int).toNat, a0.extract ((wrap64 (t146 + (a1.size : Int))) : Int).toNat a0.size, true)) else (none)) else (none)) else (none)) else (none)) else (some (a0, (⟨#[]⟩ : ByteArray), false)))) = some (r1, r2, r3) := h
 clear h
 replace H := Option.bind_eq_some_iff.mp H
 obtain ⟨t146, A30, H⟩ := H
 replace H : (if t146 ≥ 0 then (if 0 ≤ t146 then (if t146 ≤ (a0.size : Int) then (if 0 ≤ (wrap64 (t146 + (a1.size : Int))) then (if (wrap64 (t146 + (a1.size : Int))) ≤ (a0.size : Int) then (some (a0.extract 0 (t146 : Int).toNat, a0.extract ((wrap64 (t146 + (a1.size : Int))) : Int).toNat a0.size, true)) else (none)) else (none)) else (none)) else (none)) else (some (a0, (⟨#[]⟩ : ByteArray), false))) = some (r1, r2, r3) := H
 have A3 := Aside0.mk A30
 clear A30
 by_cases c4 : t146 ≥ 0
 ·rw [if_pos c4] at H
  have c4b0 : decide (0 ≤ t146) = true := decide_eq_true c4
  clear c4
  by_cases c5 : 0 ≤ t146
  ·rw [if_pos c5] at H
   have c5b0 := eq_true c5
   have c5b1 : decide (0 ≤ t146) = true := decide_eq_true c5
   clear c5
   by_cases c6 : t146 ≤ (a0.size : Int)
   ·rw [if_pos c6] at H
    have c6b0 := eq_true c6
    have c6b1 : decide (t146 ≤ (a0.size : Int)) = true := decide_eq_true c6
    clear c6
    obtain ⟨ji7, hji7⟩ : ∃ j_ : Int, (wrap64 (t146 + (a1.size : Int))) = j_ := ⟨_, rfl⟩
    replace H : (if 0 ≤ (ji7) then (if (ji7) ≤ (a0.size : Int) then (some (a0.extract 0 (t146 : Int).toNat, a0.extract ((ji7) : Int).toNat a0.size, true)) else (none)) else (none)) = some (r1, r2, r3) := by first | (rw [hji7] at H; exact H) | (simp only [hji7] at H ⊢; exact H)
    (try rw [hji7] at A3)
    have hji7w : (IntKind.i64.wrap (t146 + (a1.size : Int))) = ji7 := (i64_w _).trans hji7
    by_cases c8 : 0 ≤ (ji7)
    ·rw [if_pos c8] at H
     have c8b0 := eq_true c8
     have c8b1 : decide (0 ≤ (ji7)) = true := decide_eq_true c8
     clear c8
     by_cases c9 : (ji7) ≤ (a0.size : Int)
     ·rw [if_pos c9] at H
      have c9b0 := eq_true c9
      have c9b1 : decide ((ji7) ≤ (a0.size : Int)) = true := decide_eq_true c9
      clear c9
      simp only [Option.some.injEq, Prod.mk.injEq] at H
      obtain ⟨rfl, rfl, rfl⟩ := H
      go_enter Tryd.func74, Tryd.ntmps74
      go_wp2_with (first | (go_at_call 84; (try (rename_i hK_; simp only [List.append] at hK_)); (with_reducible refine (stringslite_Index.calls a0 a1 t146 _ ?side1 A3.out).mono ?_); (case side1 => exact Go.Proofs.YtddaggnomcoejaaDoor.PDT.Tabs_below HG.out bl); rintro e w10 ⟨rfl, hb⟩; have n0_ := Aside0.mk (below_step bl hb); clear HB; have HB := n0_; clear n0_; (try clear hb); (try clear hb2); (try clear hk); (try clear hi)))
      repeat (go_quiet (first | (go_at_call 84; (try (rename_i hK_; simp only [List.append] at hK_)); (with_reducible refine (stringslite_Index.calls a0 a1 t146 _ ?side1 A3.out).mono ?_); (case side1 => exact Go.Proofs.YtddaggnomcoejaaDoor.PDT.Tabs_below HG.out bl); rintro e w10 ⟨rfl, hb⟩; have n0_ := Aside0.mk (below_step bl hb); clear HB; have HB := n0_; clear n0_; (try clear hb); (try clear hb2); (try clear hk); (try clear hi))); try go_wp2_with (first | (go_at_call 84; (try (rename_i hK_; simp only [List.append] at hK_)); (with_reducible refine (stringslite_Index.calls a0 a1 t146 _ ?side1 A3.out).mono ?_); (case side1 => exact Go.Proofs.YtddaggnomcoejaaDoor.PDT.Tabs_below HG.out bl); rintro e w10 ⟨rfl, hb⟩; have n0_ := Aside0.mk (below_step bl hb); clear HB; have HB := n0_; clear n0_; (try clear hb); (try clear hb2); (try clear hk); (try clear hi))))
      go_ret3
      exact ⟨by first | rfl | (simp [errW_none, errW_some] <;> rfl) | (simp only [← hji7]; first | rfl | (simp [errW_none, errW_some] <;> rfl)) | (simp [*, errW_none, errW_some] <;> rfl), bl⟩
     ·rw [if_neg c9] at H
      exact absurd H (by simp)
    ·rw [if_neg c8] at H
     exact absurd H (by simp)
   ·rw [if_neg c6] at H
    exact absurd H (by simp)
  ·rw [if_neg c5] at H
   exact absurd H (by simp)
 ·rw [if_neg c4] at H
  have c4b0 : decide (0 ≤ t146) = false := decide_eq_false c4
  clear c4
  simp only [Option.some.injEq, Prod.mk.injEq] at H
  obtain ⟨rfl, rfl, rfl⟩ := H
  go_enter Tryd.func74, Tryd.ntmps74
  go_wp2_with (first | (go_at_call 84; (try (rename_i hK_; simp only [List.append] at hK_)); (with_reducible refine (stringslite_Index.calls a0 a1 t146 _ ?side1 A3.out).mono ?_); (case side1 => exact Go.Proofs.YtddaggnomcoejaaDoor.PDT.Tabs_below HG.out bl); rintro e w11 ⟨rfl, hb⟩; have n0_ := Aside0.mk (below_step bl hb); clear HB; have HB := n0_; clear n0_; (try clear hb); (try clear hb2); (try clear hk); (try clear hi)))
  repeat (go_quiet (first | (go_at_call 84; (try (rename_i hK_; simp only [List.append] at hK_)); (with_reducible refine (stringslite_Index.calls a0 a1 t146 _ ?side1 A3.out).mono ?_); (case side1 => exact Go.Proofs.YtddaggnomcoejaaDoor.PDT.Tabs_below HG.out bl); rintro e w11 ⟨rfl, hb⟩; have n0_ := Aside0.mk (below_step bl hb); clear HB; have HB := n0_; clear n0_; (try clear hb); (try clear hb2); (try clear hk); (try clear hi))); try go_wp2_with (first | (go_at_call 84; (try (rename_i hK_; simp only [List.append] at hK_)); (with_reducible refine (stringslite_Index.calls a0 a1 t146 _ ?side1 A3.out).mono ?_); (case side1 => exact Go.Proofs.YtddaggnomcoejaaDoor.PDT.Tabs_below HG.out bl); rintro e w11 ⟨rfl, hb⟩; have n0_ := Aside0.mk (below_step bl hb); clear HB; have HB := n0_; clear n0_; (try clear hb); (try clear hb2); (try clear hk); (try clear hi))))
  go_ret3
  exact ⟨by first | rfl | (simp [errW_none, errW_some] <;> rfl) | (simp [*, errW_none, errW_some] <;> rfl), bl⟩

/-! ### strings_Cut: function 58 -/
def strings_Cut.f (a0 : ByteArray) (a1 : ByteArray) : Option (ByteArray × ByteArray × Bool) := (stringslite_Cut.f a0 a1).bind fun bt147 => (some (bt147.1, bt147.2.1, bt147.2.2))
set_option maxHeartbeats 8000000 in
set_option maxRecDepth 100000 in
theorem strings_Cut.calls (a0 : ByteArray) (a1 : ByteArray) (r1 : ByteArray) (r2 : ByteArray) (r3 : Bool) (w : World) (hG : Go.Proofs.YtddaggnomcoejaaDoor.PDT.Tabs w) (h : strings_Cut.f a0 a1 = some (r1, r2, r3)) :
  Calls Tryd.prog 58 #[.string a0, .string a1] w fun e w' => e = .returned (.tuple #[.string r1, .string r2, .bool r3]) ∧ Below w.heap.size w w' := by
 have HG := Aside0.mk hG
 clear hG
 have HB := Aside0.mk (Below.refl w.heap.size w)
 have H : ((stringslite_Cut.f a0 a1).bind fun bt147 => (some (bt147.1, bt147.2.1, bt147.2.2))) = some (r1, r2, r3) := h
 clear h
 replace H := Option.bind_eq_some_iff.mp H
 obtain ⟨⟨t147, t148, t149⟩, A30, H⟩ := H
 replace H : (some (t147, t148, t149)) = some (r1, r2, r3) := H
 have A3 := Aside0.mk A30
 clear A30
 simp only [Option.some.injEq, Prod.mk.injEq] at H
 obtain ⟨rfl, rfl, rfl⟩ := H
 go_enter Tryd.func58, Tryd.ntmps58
 go_wp2_with (first | ((with_reducible refine gate_callee (f := 74) rfl ?_); refine goesL_ (some 9) rfl rfl Tryd.func74 (by kernel_rfl) rfl #[.string a0, .string a1] rfl (by (try simp only [List.map_toArray, List.map_cons, List.map_nil]); first | done | rfl | (simp only [List.length_drop, List.length_take]; rfl)) ?_; (with_reducible refine (stringslite_Cut.calls a0 a1 t147 t148 t149 _ ?side1 A3.out).mono ?_); (case side1 => exact Go.Proofs.YtddaggnomcoejaaDoor.PDT.Tabs_below HG.out bl); rintro e w4 ⟨rfl, hb⟩; refine ⟨_, rfl, ?_⟩; have n0_ := Aside0.mk (below_step bl hb); clear HB; have HB := n0_; clear n0_; (try clear hb); (try clear hb2); (try clear hk); (try clear hi)))
 go_ret3
 exact ⟨by first | rfl | (simp [errW_none, errW_some] <;> rfl) | (simp [*, errW_none, errW_some] <;> rfl), bl⟩

/-! ### stringslite_TrimPrefix: function 75 -/
def stringslite_TrimPrefix.f (a0 : ByteArray) (a1 : ByteArray) : Option (ByteArray) := (stringslite_HasPrefix.f a0 a1).bind fun t150 => (if t150 = true then (if 0 ≤ (a1.size : Int) then (if (a1.size : Int) ≤ (a0.size : Int) then (some (a0.extract ((a1.size : Int) : Int).toNat a0.size)) else (none)) else (none)) else (some a0))
set_option maxHeartbeats 8000000 in
set_option maxRecDepth 100000 in
theorem stringslite_TrimPrefix.calls (a0 : ByteArray) (a1 : ByteArray) (r : ByteArray) (w : World) (h : stringslite_TrimPrefix.f a0 a1 = some r) :
  Calls Tryd.prog 75 #[.string a0, .string a1] w fun e w' => e = .returned (.string r) ∧ Drawn0 w w' := by
 have H : ((stringslite_HasPrefix.f a0 a1).bind fun t150 => (if t150 = true then (if 0 ≤ (a1.size : Int) then (if (a1.size : Int) ≤ (a0.size : Int) then (some (a0.extract ((a1.size : Int) : Int).toNat a0.size)) else (none)) else (none)) else (some a0))) = some r := h
 clear h
 replace H := Option.bind_eq_some_iff.mp H
 obtain ⟨t150, A30, H⟩ := H
 replace H : (if t150 = true then (if 0 ≤ (a1.size : Int) then (if (a1.size : Int) ≤ (a0.size : Int) then (some (a0.extract ((a1.size : Int) : Int).toNat a0.size)) else (none)) else (none)) else (some a0)) = some r := H
 have A3 := Aside0.mk A30
 clear A30
 by_cases c4 : t150 = true
 ·subst c4
  have H1 : (if 0 ≤ (a1.size : Int) then (if (a1.size : Int) ≤ (a0.size : Int) then (some (a0.extract ((a1.size : Int) : Int).toNat a0.size)) else (none)) else (none)) = some r := by rw [if_pos rfl] at H; exact H
  clear H
  have H := H1
  clear H1
  by_cases c5 : 0 ≤ (a1.size : Int)
  ·rw [if_pos c5] at H
   have c5b0 := eq_true c5
   have c5b1 : decide (0 ≤ (a1.size : Int)) = true := decide_eq_true c5
   clear c5
   by_cases c6 : (a1.size : Int) ≤ (a0.size : Int)
   ·rw [if_pos c6] at H
    have c6b0 := eq_true c6
    have c6b1 : decide ((a1.size : Int) ≤ (a0.size : Int)) = true := decide_eq_true c6
    clear c6
    obtain rfl := Option.some.inj H
    go_enter Tryd.func75, Tryd.ntmps75
    go_wp2_with (first | ((with_reducible refine gate_callee (f := 83) rfl ?_); refine goesL_ (some 7) rfl rfl Tryd.func83 (by kernel_rfl) rfl #[.string a0, .string a1] rfl (by (try simp only [List.map_toArray, List.map_cons, List.map_nil]); first | done | rfl | (simp only [List.length_drop, List.length_take]; rfl)) ?_; (with_reducible refine (stringslite_HasPrefix.calls a0 a1 true _ A3.out).mono ?_); rintro e w' ⟨rfl, ⟨nd, rfl⟩⟩; refine ⟨_, rfl, ?_⟩))
    go_ret
    exact ⟨by first | rfl | (simp; done) | (simp [*]; done) | (simp [wrap64]; done), by repeat (first | exact Drawn0.refl _ | apply Drawn0.step)⟩
   ·rw [if_neg c6] at H
    exact absurd H (by simp)
  ·rw [if_neg c5] at H
   exact absurd H (by simp)
 ·replace c4 := Bool.eq_false_iff.mpr c4
  subst c4
  have H1 : (some a0) = some r := by rw [if_neg (show ¬ (false = true) by decide)] at H; exact H
  clear H
  have H := H1
  clear H1
  obtain rfl := Option.some.inj H
  go_enter Tryd.func75, Tryd.ntmps75
  go_wp2_with (first | ((with_reducible refine gate_callee (f := 83) rfl ?_); refine goesL_ (some 7) rfl rfl Tryd.func83 (by kernel_rfl) rfl #[.string a0, .string a1] rfl (by (try simp only [List.map_toArray, List.map_cons, List.map_nil]); first | done | rfl | (simp only [List.length_drop, List.length_take]; rfl)) ?_; (with_reducible refine (stringslite_HasPrefix.calls a0 a1 false _ A3.out).mono ?_); rintro e w' ⟨rfl, ⟨nd, rfl⟩⟩; refine ⟨_, rfl, ?_⟩))
  go_ret
  exact ⟨by first | rfl | (simp; done) | (simp [*]; done) | (simp [wrap64]; done), by repeat (first | exact Drawn0.refl _ | apply Drawn0.step)⟩

/-! ### strings_TrimPrefix: function 59 -/
def strings_TrimPrefix.f (a0 : ByteArray) (a1 : ByteArray) : Option (ByteArray) := (stringslite_TrimPrefix.f a0 a1).bind fun t151 => (some t151)
set_option maxHeartbeats 8000000 in
set_option maxRecDepth 100000 in
theorem strings_TrimPrefix.calls (a0 : ByteArray) (a1 : ByteArray) (r : ByteArray) (w : World) (h : strings_TrimPrefix.f a0 a1 = some r) :
  Calls Tryd.prog 59 #[.string a0, .string a1] w fun e w' => e = .returned (.string r) ∧ Drawn0 w w' := by
 have H : ((stringslite_TrimPrefix.f a0 a1).bind fun t151 => (some t151)) = some r := h
 clear h
 replace H := Option.bind_eq_some_iff.mp H
 obtain ⟨t151, A30, H⟩ := H
 replace H : (some t151) = some r := H
 have A3 := Aside0.mk A30
 clear A30
 obtain rfl := Option.some.inj H
 go_enter Tryd.func59, Tryd.ntmps59
 go_wp2_with (first | ((with_reducible refine gate_callee (f := 75) rfl ?_); refine goesL_ (some 7) rfl rfl Tryd.func75 (by kernel_rfl) rfl #[.string a0, .string a1] rfl (by (try simp only [List.map_toArray, List.map_cons, List.map_nil]); first | done | rfl | (simp only [List.length_drop, List.length_take]; rfl)) ?_; (with_reducible refine (stringslite_TrimPrefix.calls a0 a1 t151 _ A3.out).mono ?_); rintro e w' ⟨rfl, ⟨nd, rfl⟩⟩; refine ⟨_, rfl, ?_⟩))
 go_ret
 exact ⟨by first | rfl | (simp; done) | (simp [*]; done) | (simp [wrap64]; done), by repeat (first | exact Drawn0.refl _ | apply Drawn0.step)⟩

/-! ### dec_Parse: function 31 -/
def dec_Parse.j0 : Nat → ByteArray → Int → Bool → ByteArray → ByteArray → Option (Int × Bool × ByteArray × ByteArray × Bool)
 | 0, _, _, _, _, _ => none
 | k + 1, x0, x154000, x154001, x154002, x154003 => (dec_Good.f k x154000 x154001 x154002 x154003).bind fun t160 => (if t160 = true then ((dec_Print.f k x154000 x154001 x154002 x154003).bind fun t161 => (if t161.toList = x0.toList then (some (x154000, x154001, x154002, x154003, true)) else (some (0, false, (⟨#[]⟩ : ByteArray), (⟨#[]⟩ : ByteArray), false)))) else (some (0, false, (⟨#[]⟩ : ByteArray), (⟨#[]⟩ : ByteArray), false)))
def dec_Parse.f (k : Nat) (a0 : ByteArray) : Option (Int × Bool × ByteArray × ByteArray × Bool) := (strings_CutPrefix.f a0 (⟨#[45]⟩ : ByteArray)).bind fun bt154 => (if bt154.1.toList = ([46, 105, 110, 102] : List UInt8) then (dec_Parse.j0 k a0 1 bt154.2 (⟨#[]⟩ : ByteArray) (⟨#[]⟩ : ByteArray)) else (if bt154.1.toList = ([46, 110, 97, 110] : List UInt8) then (dec_Parse.j0 k a0 2 bt154.2 (⟨#[]⟩ : ByteArray) (⟨#[]⟩ : ByteArray)) else ((strings_Cut.f bt154.1 (⟨#[46, 101]⟩ : ByteArray)).bind fun bt156 => ((strings_TrimPrefix.f bt156.2.1 (⟨#[43]⟩ : ByteArray)).bind fun t159 => (dec_Parse.j0 k a0 0 bt154.2 bt156.1 t159)))))
theorem dec_Parse.mono_l : ∀ k, (∀ y0 y1 y2 y3 y4, LeO (dec_Parse.j0 k y0 y1 y2 y3 y4) (dec_Parse.j0 (k + 1) y0 y1 y2 y3 y4))
 | 0 => fun _ _ _ _ _ r h => by simp [dec_Parse.j0] at h
 | k + 1 => by
  have ih0 := dec_Parse.mono_l k
  ·intro y0 y1 y2 y3 y4
   unfold dec_Parse.j0
   repeat' first
   | (with_reducible exact ih0 _ _ _ _ _)
   | (with_reducible exact dec_Good.mono _ _ _ _ _)
   | (with_reducible exact dec_Print.mono _ _ _ _ _)
   | (with_reducible exact LeO.refl _)
   | (with_reducible exact LeO.none _)
   | (with_reducible refine LeO.ite ?_ ?_)
   | (with_reducible refine LeO.bind ?_ (fun _ => ?_))
   | exact ih0 _ _ _ _ _
   | exact dec_Good.mono _ _ _ _ _
   | exact dec_Print.mono _ _ _ _ _
   | exact LeO.none _
   | refine LeO.ite ?_ ?_
   | refine LeO.bind ?_ (fun _ => ?_)
theorem dec_Parse.mono : ∀ a0 k, LeO (dec_Parse.f k a0) (dec_Parse.f (k + 1) a0) := by
 intro a0 k
 have ih0 := dec_Parse.mono_l k
 unfold dec_Parse.f
 repeat' first
   | (with_reducible exact ih0 _ _ _ _ _)
   | (with_reducible exact dec_Good.mono _ _ _ _ _)
   | (with_reducible exact dec_Print.mono _ _ _ _ _)
   | (with_reducible exact LeO.refl _)
   | (with_reducible exact LeO.none _)
   | (with_reducible refine LeO.ite ?_ ?_)
   | (with_reducible refine LeO.bind ?_ (fun _ => ?_))
   | exact ih0 _ _ _ _ _
   | exact dec_Good.mono _ _ _ _ _
   | exact dec_Print.mono _ _ _ _ _
   | exact LeO.none _
   | refine LeO.ite ?_ ?_
   | refine LeO.bind ?_ (fun _ => ?_)
set_option maxHeartbeats 8000000 in
set_option maxRecDepth 100000 in
theorem dec_Parse.calls (k : Nat) (a0 : ByteArray) (r1 : Int) (r2 : Bool) (r3 : ByteArray) (r4 : ByteArray) (r5 : Bool) (w : World) (hG : Go.Proofs.YtddaggnomcoejaaDoor.PDT.Tabs w) (h : dec_Parse.f k a0 = some (r1, r2, r3, r4, r5)) :
  Calls Tryd.prog 31 #[.string a0] w fun e w' => e = .returned (.tuple #[.agg #[.int .i64 r1, .bool r2, .string r3, .string r4], .bool r5]) ∧ Below w.heap.size w w' := by
 have hu40 := Tryd.underlying40
 have HG := Aside0.mk hG
 clear hG
 have HB := Aside0.mk (Below.refl w.heap.size w)
 have H : ((strings_CutPrefix.f a0 (⟨#[45]⟩ : ByteArray)).bind fun bt154 => (if bt154.1.toList = ([46, 105, 110, 102] : List UInt8) then (dec_Parse.j0 k a0 1 bt154.2 (⟨#[]⟩ : ByteArray) (⟨#[]⟩ : ByteArray)) else (if bt154.1.toList = ([46, 110, 97, 110] : List UInt8) then (dec_Parse.j0 k a0 2 bt154.2 (⟨#[]⟩ : ByteArray) (⟨#[]⟩ : ByteArray)) else ((strings_Cut.f bt154.1 (⟨#[46, 101]⟩ : ByteArray)).bind fun bt156 => ((strings_TrimPrefix.f bt156.2.1 (⟨#[43]⟩ : ByteArray)).bind fun t159 => (dec_Parse.j0 k a0 0 bt154.2 bt156.1 t159)))))) = some (r1, r2, r3, r4, r5) := h
 clear h
 replace H := Option.bind_eq_some_iff.mp H
 obtain ⟨⟨t154, t155⟩, A20, H⟩ := H
 replace H : (if t154.toList = ([46, 105, 110, 102] : List UInt8) then (dec_Parse.j0 k a0 1 t155 (⟨#[]⟩ : ByteArray) (⟨#[]⟩ : ByteArray)) else (if t154.toList = ([46, 110, 97, 110] : List UInt8) then (dec_Parse.j0 k a0 2 t155 (⟨#[]⟩ : ByteArray) (⟨#[]⟩ : ByteArray)) else ((strings_Cut.f t154 (⟨#[46, 101]⟩ : ByteArray)).bind fun bt156 => ((strings_TrimPrefix.f bt156.2.1 (⟨#[43]⟩ : ByteArray)).bind fun t159 => (dec_Parse.j0 k a0 0 t155 bt156.1 t159))))) = some (r1, r2, r3, r4, r5) := H
 have A2 := Aside0.mk A20
 clear A20
 have HC3 := Aside0.mk H
 clear H
 go_enter Tryd.func31, Tryd.ntmps31
 go_upto_block 0 with (first | ((with_reducible refine gate_dst (N := 2) rfl ?_); refine box_event ?hg (N := 2) ?hd (cs := #[.int .i64 0, .bool false, .string (⟨#[]⟩ : ByteArray), .string (⟨#[]⟩ : ByteArray)]) (t := 40) ?hr ?_; (case hd => rfl); (case hg => rfl); (case hr => first | (go_simp; done) | (go_simp; rfl)); intro gb152 hg w4 hbox hb; have n0_ := Aside0.mk (below_step bl hb); have n1_ := Aside0.mk (hbox); have n2_ := Aside0.mk ((by rw [hg]; exact (below_size bl) : w.heap.size ≤ gb152)); have n3_ := Aside0.mk ((by rw [hg]; exact (below_size bl) : w.heap.size ≤ gb152)); clear HB; have HB := n0_; have BK152 := n1_; have GW152 := n2_; have GE152 := n3_; clear n0_ n1_ n2_ n3_; clear hb hbox hg) | ((with_reducible refine gate_dst (N := 4) rfl ?_); refine box_event ?hg (N := 4) ?hd (cs := #[.int .i64 0, .bool false, .string (⟨#[]⟩ : ByteArray), .string (⟨#[]⟩ : ByteArray)]) (t := 40) ?hr ?_; (case hd => rfl); (case hg => rfl); (case hr => first | (go_simp; done) | (go_simp; rfl)); intro gb153 hg w5 hbox hb; have n0_ := Aside0.mk (blk_below (g := gb152) (o := .cells #[.int .i64 0, .bool false, .string (⟨#[]⟩ : ByteArray), .string (⟨#[]⟩ : ByteArray)] 40 (0, 0)) bk hb); have n1_ := Aside0.mk (below_step bl hb); have n2_ := Aside0.mk (hbox); have n3_ := Aside0.mk ((by rw [hg]; exact (below_size bl) : w.heap.size ≤ gb153)); have n4_ := Aside0.mk ((by rw [hg]; exact (below_size bl) : w.heap.size ≤ gb153)); have n5_ := Aside0.mk ((by rw [hg]; exact Nat.ne_of_lt (blk_lt (g := gb152) (o := .cells #[.int .i64 0, .bool false, .string (⟨#[]⟩ : ByteArray), .string (⟨#[]⟩ : ByteArray)] 40 (0, 0)) bk) : gb152 ≠ gb153)); have n6_ := Aside0.mk ((by rw [hg]; exact Nat.ne_of_gt (blk_lt (g := gb152) (o := .cells #[.int .i64 0, .bool false, .string (⟨#[]⟩ : ByteArray), .string (⟨#[]⟩ : ByteArray)] 40 (0, 0)) bk) : gb153 ≠ gb152)); clear BK152; clear HB; have BK152 := n0_; have HB := n1_; have BK153 := n2_; have GW153 := n3_; have GE153 := n4_; have NB152_153 := n5_; have NB153_152 := n6_; clear n0_ n1_ n2_ n3_ n4_ n5_ n6_; clear hb hbox hg; have hnb6 := NB153_152.out; have hnc6 := NB152_153.out; have hcz7_0 : w5.cell? ⟨gb153, 0, none⟩ = some (.int .i64 0) := (blk_cell BK153.out 0).trans rfl; have hcz7_1 : w5.cell? ⟨gb153, 1, none⟩ = some (.bool false) := (blk_cell BK153.out 1).trans rfl; have hcz7_2 : w5.cell? ⟨gb153, 2, none⟩ = some (.string (⟨#[]⟩ : ByteArray)) := (blk_cell BK153.out 2).trans rfl; have hcz7_3 : w5.cell? ⟨gb153, 3, none⟩ = some (.string (⟨#[]⟩ : ByteArray)) := (blk_cell BK153.out 3).trans rfl; have hfz7_0 := blk_frozen BK153.out 0; have hfz7_1 := blk_frozen BK153.out 1; have hfz7_2 := blk_frozen BK153.out 2; have hfz7_3 := blk_frozen BK153.out 3) | ((with_reducible refine gate_callee (f := 57) rfl ?_); refine goesL_ (some 10) rfl rfl Tryd.func57 (by kernel_rfl) rfl #[.string a0, .string (⟨#[45]⟩ : ByteArray)] rfl (by (try simp only [List.map_toArray, List.map_cons, List.map_nil]); first | done | rfl | (simp only [List.length_drop, List.length_take]; rfl)) ?_; (with_reducible refine (strings_CutPrefix.calls a0 (⟨#[45]⟩ : ByteArray) t154 t155 _ A2.out).mono ?_); rintro e w' ⟨rfl, ⟨nd, rfl⟩⟩; refine ⟨_, rfl, ?_⟩))
 (try simp only [Act.put, List.setIfInBounds_toArray, List.set_cons_zero, List.set_cons_succ])
 go_cut [] (fun wc => ∃ (kq : Nat) (x154000_2 : Int) (x154002_2 : ByteArray) (x154003_2 : ByteArray), Aside0 (dec_Parse.j0 kq a0 x154000_2 t155 x154002_2 x154003_2 = some (r1, r2, r3, r4, r5)) ∧ Aside0 (kq ≤ k) ∧ Aside0 (wc.heap[gb152]? = some (.cells #[.int .i64 0, .bool false, .string (⟨#[]⟩ : ByteArray), .string (⟨#[]⟩ : ByteArray)] 40 (0, 0))) ∧ Aside0 (wc.heap[gb153]? = some (.cells #[.int .i64 x154000_2, .bool t155, .string x154002_2, .string x154003_2] 40 (0, 0))) ∧ Aside0 (Below w.heap.size w wc))
 case first =>
  have H := HC3.out
  clear HC3
  by_cases c8 : t154.toList = ([46, 105, 110, 102] : List UInt8)
  ·rw [if_pos c8] at H
   have c8b0 : (t154.toList == ([46, 105, 110, 102] : List UInt8)) = true := beq_iff_eq.mpr c8
   have c8b1 : (t154.toList != ([46, 105, 110, 102] : List UInt8)) = false := bne_eq_false_iff_eq.mpr c8
   clear c8
   (first | rw [c8b0] | (simp only [i64_w, i32_w]; rw [c8b0]) | skip)
   have H' := Aside0.mk H
   clear H
   have hnb9 := NB153_152.out
   have hnc9 := NB152_153.out
   have hcz10_0 : w5.cell? ⟨gb153, 0, none⟩ = some (.int .i64 0) := (blk_cell BK153.out 0).trans rfl
   have hcz10_1 : w5.cell? ⟨gb153, 1, none⟩ = some (.bool false) := (blk_cell BK153.out 1).trans rfl
   have hcz10_2 : w5.cell? ⟨gb153, 2, none⟩ = some (.string (⟨#[]⟩ : ByteArray)) := (blk_cell BK153.out 2).trans rfl
   have hcz10_3 : w5.cell? ⟨gb153, 3, none⟩ = some (.string (⟨#[]⟩ : ByteArray)) := (blk_cell BK153.out 3).trans rfl
   have hfz10_0 := blk_frozen BK153.out 0
   have hfz10_1 := blk_frozen BK153.out 1
   have hfz10_2 := blk_frozen BK153.out 2
   have hfz10_3 := blk_frozen BK153.out 3
   go_wp2
   go_meet
   case rel => exact ⟨_, (1), ((⟨#[]⟩ : ByteArray)), ((⟨#[]⟩ : ByteArray)), H', ⟨by first | omega | exact Nat.le_refl _⟩, ⟨by (with_reducible repeat (first | refine blk_drewN ?_ _ | refine blk_drew ?_ | refine blk_alloc ?_ _)); refine blk_far ?_ NB152_153.out _; (with_reducible repeat (first | refine blk_drewN ?_ _ | refine blk_drew ?_ | refine blk_alloc ?_ _)); refine blk_far ?_ NB152_153.out _; (with_reducible repeat (first | refine blk_drewN ?_ _ | refine blk_drew ?_ | refine blk_alloc ?_ _)); refine blk_far ?_ NB152_153.out _; (with_reducible repeat (first | refine blk_drewN ?_ _ | refine blk_drew ?_ | refine blk_alloc ?_ _)); refine blk_far ?_ NB152_153.out _; (with_reducible repeat (first | refine blk_drewN ?_ _ | refine blk_drew ?_ | refine blk_alloc ?_ _)); refine blk_far ?_ NB152_153.out _; (with_reducible repeat (first | refine blk_drewN ?_ _ | refine blk_drew ?_ | refine blk_alloc ?_ _)); refine blk_far ?_ NB152_153.out _; (with_reducible repeat (first | refine blk_drewN ?_ _ | refine blk_drew ?_ | refine blk_alloc ?_ _)); exact BK152.out⟩, ⟨by (with_reducible repeat (first | refine blk_drewN ?_ _ | refine blk_drew ?_ | refine blk_alloc ?_ _)); refine blk_put (cs := #[.int .i64 0, .bool t155, .string (⟨#[]⟩ : ByteArray), .string (⟨#[]⟩ : ByteArray)]) ?_ 0 _ rfl; (with_reducible repeat (first | refine blk_drewN ?_ _ | refine blk_drew ?_ | refine blk_alloc ?_ _)); refine blk_put (cs := #[.int .i64 0, .bool false, .string (⟨#[]⟩ : ByteArray), .string (⟨#[]⟩ : ByteArray)]) ?_ 1 _ rfl; (with_reducible repeat (first | refine blk_drewN ?_ _ | refine blk_drew ?_ | refine blk_alloc ?_ _)); refine blk_put (cs := #[.int .i64 0, .bool false, .string (⟨#[]⟩ : ByteArray), .string (⟨#[]⟩ : ByteArray)]) ?_ 3 _ rfl; (with_reducible repeat (first | refine blk_drewN ?_ _ | refine blk_drew ?_ | refine blk_alloc ?_ _)); refine blk_put (cs := #[.int .i64 0, .bool false, .string (⟨#[]⟩ : ByteArray), .string (⟨#[]⟩ : ByteArray)]) ?_ 2 _ rfl; (with_reducible repeat (first | refine blk_drewN ?_ _ | refine blk_drew ?_ | refine blk_alloc ?_ _)); refine blk_put (cs := #[.int .i64 0, .bool false, .string (⟨#[]⟩ : ByteArray), .string (⟨#[]⟩ : ByteArray)]) ?_ 1 _ rfl; (with_reducible repeat (first | refine blk_drewN ?_ _ | refine blk_drew ?_ | refine blk_alloc ?_ _)); refine blk_put (cs := #[.int .i64 0, .bool false, .string (⟨#[]⟩ : ByteArray), .string (⟨#[]⟩ : ByteArray)]) ?_ 0 _ rfl; (with_reducible repeat (first | refine blk_drewN ?_ _ | refine blk_drew ?_ | refine blk_alloc ?_ _)); exact BK153.out⟩, ⟨bl⟩⟩
  ·rw [if_neg c8] at H
   have c8b0 : (t154.toList == ([46, 105, 110, 102] : List UInt8)) = false := beq_eq_false_iff_ne.mpr c8
   have c8b1 : (t154.toList != ([46, 105, 110, 102] : List UInt8)) = true := bne_iff_ne.mpr c8
   (first | rw [c8b0] | (simp only [i64_w, i32_w]; rw [c8b0]) | skip)
   by_cases c11 : t154.toList = ([46, 110, 97, 110] : List UInt8)
   ·rw [if_pos c11] at H
    have c11b0 : (t154.toList == ([46, 110, 97, 110] : List UInt8)) = true := beq_iff_eq.mpr c11
    have c11b1 : (t154.toList != ([46, 110, 97, 110] : List UInt8)) = false := bne_eq_false_iff_eq.mpr c11
    clear c11
    have H' := Aside0.mk H
    clear H
    have hnb12 := NB153_152.out
    have hnc12 := NB152_153.out
    have hcz13_0 : w5.cell? ⟨gb153, 0, none⟩ = some (.int .i64 0) := (blk_cell BK153.out 0).trans rfl
    have hcz13_1 : w5.cell? ⟨gb153, 1, none⟩ = some (.bool false) := (blk_cell BK153.out 1).trans rfl
    have hcz13_2 : w5.cell? ⟨gb153, 2, none⟩ = some (.string (⟨#[]⟩ : ByteArray)) := (blk_cell BK153.out 2).trans rfl
    have hcz13_3 : w5.cell? ⟨gb153, 3, none⟩ = some (.string (⟨#[]⟩ : ByteArray)) := (blk_cell BK153.out 3).trans rfl
    have hfz13_0 := blk_frozen BK153.out 0
    have hfz13_1 := blk_frozen BK153.out 1
    have hfz13_2 := blk_frozen BK153.out 2
    have hfz13_3 := blk_frozen BK153.out 3
    go_wp2
    go_meet
    case rel => exact ⟨_, (2), ((⟨#[]⟩ : ByteArray)), ((⟨#[]⟩ : ByteArray)), H', ⟨by first | omega | exact Nat.le_refl _⟩, ⟨by (with_reducible repeat (first | refine blk_drewN ?_ _ | refine blk_drew ?_ | refine blk_alloc ?_ _)); refine blk_far ?_ NB152_153.out _; (with_reducible repeat (first | refine blk_drewN ?_ _ | refine blk_drew ?_ | refine blk_alloc ?_ _)); refine blk_far ?_ NB152_153.out _; (with_reducible repeat (first | refine blk_drewN ?_ _ | refine blk_drew ?_ | refine blk_alloc ?_ _)); refine blk_far ?_ NB152_153.out _; (with_reducible repeat (first | refine blk_drewN ?_ _ | refine blk_drew ?_ | refine blk_alloc ?_ _)); refine blk_far ?_ NB152_153.out _; (with_reducible repeat (first | refine blk_drewN ?_ _ | refine blk_drew ?_ | refine blk_alloc ?_ _)); refine blk_far ?_ NB152_153.out _; (with_reducible repeat (first | refine blk_drewN ?_ _ | refine blk_drew ?_ | refine blk_alloc ?_ _)); refine blk_far ?_ NB152_153.out _; (with_reducible repeat (first | refine blk_drewN ?_ _ | refine blk_drew ?_ | refine blk_alloc ?_ _)); exact BK152.out⟩, ⟨by (with_reducible repeat (first | refine blk_drewN ?_ _ | refine blk_drew ?_ | refine blk_alloc ?_ _)); refine blk_put (cs := #[.int .i64 0, .bool t155, .string (⟨#[]⟩ : ByteArray), .string (⟨#[]⟩ : ByteArray)]) ?_ 0 _ rfl; (with_reducible repeat (first | refine blk_drewN ?_ _ | refine blk_drew ?_ | refine blk_alloc ?_ _)); refine blk_put (cs := #[.int .i64 0, .bool false, .string (⟨#[]⟩ : ByteArray), .string (⟨#[]⟩ : ByteArray)]) ?_ 1 _ rfl; (with_reducible repeat (first | refine blk_drewN ?_ _ | refine blk_drew ?_ | refine blk_alloc ?_ _)); refine blk_put (cs := #[.int .i64 0, .bool false, .string (⟨#[]⟩ : ByteArray), .string (⟨#[]⟩ : ByteArray)]) ?_ 3 _ rfl; (with_reducible repeat (first | refine blk_drewN ?_ _ | refine blk_drew ?_ | refine blk_alloc ?_ _)); refine blk_put (cs := #[.int .i64 0, .bool false, .string (⟨#[]⟩ : ByteArray), .string (⟨#[]⟩ : ByteArray)]) ?_ 2 _ rfl; (with_reducible repeat (first | refine blk_drewN ?_ _ | refine blk_drew ?_ | refine blk_alloc ?_ _)); refine blk_put (cs := #[.int .i64 0, .bool false, .string (⟨#[]⟩ : ByteArray), .string (⟨#[]⟩ : ByteArray)]) ?_ 1 _ rfl; (with_reducible repeat (first | refine blk_drewN ?_ _ | refine blk_drew ?_ | refine blk_alloc ?_ _)); refine blk_put (cs := #[.int .i64 0, .bool false, .string (⟨#[]⟩ : ByteArray), .string (⟨#[]⟩ : ByteArray)]) ?_ 0 _ rfl; (with_reducible repeat (first | refine blk_drewN ?_ _ | refine blk_drew ?_ | refine blk_alloc ?_ _)); exact BK153.out⟩, ⟨bl⟩⟩
   ·rw [if_neg c11] at H
    have c11b0 : (t154.toList == ([46, 110, 97, 110] : List UInt8)) = false := beq_eq_false_iff_ne.mpr c11
    have c11b1 : (t154.toList != ([46, 110, 97, 110] : List UInt8)) = true := bne_iff_ne.mpr c11
    replace H := Option.bind_eq_some_iff.mp H
    obtain ⟨⟨t156, t157, t158⟩, A140, H⟩ := H
    replace H : ((strings_TrimPrefix.f t157 (⟨#[43]⟩ : ByteArray)).bind fun t159 => (dec_Parse.j0 k a0 0 t155 t156 t159)) = some (r1, r2, r3, r4, r5) := H
    have A14 := Aside0.mk A140
    clear A140
    replace H := Option.bind_eq_some_iff.mp H
    obtain ⟨t159, A150, H⟩ := H
    replace H : (dec_Parse.j0 k a0 0 t155 t156 t159) = some (r1, r2, r3, r4, r5) := H
    have A15 := Aside0.mk A150
    clear A150
    have H' := Aside0.mk H
    clear H
    go_wp2_with (first | ((with_reducible refine gate_callee (f := 58) rfl ?_); refine goesL_ (some 18) rfl rfl Tryd.func58 (by kernel_rfl) rfl #[.string t154, .string (⟨#[46, 101]⟩ : ByteArray)] rfl (by (try simp only [List.map_toArray, List.map_cons, List.map_nil]); first | done | rfl | (simp only [List.length_drop, List.length_take]; rfl)) ?_; (with_reducible refine (strings_Cut.calls t154 (⟨#[46, 101]⟩ : ByteArray) t156 t157 t158 _ ?side1 A14.out).mono ?_); (case side1 => exact Go.Proofs.YtddaggnomcoejaaDoor.PDT.Tabs_below HG.out bl); rintro e w16 ⟨rfl, hb⟩; refine ⟨_, rfl, ?_⟩; have n0_ := Aside0.mk (blk_below (g := gb152) (o := .cells #[.int .i64 0, .bool false, .string (⟨#[]⟩ : ByteArray), .string (⟨#[]⟩ : ByteArray)] 40 (0, 0)) bk hb); have n1_ := Aside0.mk (blk_below (g := gb153) (o := .cells #[.int .i64 0, .bool t155, .string (⟨#[]⟩ : ByteArray), .string (⟨#[]⟩ : ByteArray)] 40 (0, 0)) bk hb); have n2_ := Aside0.mk (below_step bl hb); clear BK152; clear BK153; clear HB; have BK152 := n0_; have BK153 := n1_; have HB := n2_; clear n0_ n1_ n2_; (try clear hb); (try clear hb2); (try clear hk); (try clear hi); have hnb17 := NB153_152.out; have hnc17 := NB152_153.out; have hcz18_0 : w16.cell? ⟨gb153, 0, none⟩ = some (.int .i64 0) := (blk_cell BK153.out 0).trans rfl; have hcz18_1 : w16.cell? ⟨gb153, 1, none⟩ = some (.bool t155) := (blk_cell BK153.out 1).trans rfl; have hcz18_2 : w16.cell? ⟨gb153, 2, none⟩ = some (.string (⟨#[]⟩ : ByteArray)) := (blk_cell BK153.out 2).trans rfl; have hcz18_3 : w16.cell? ⟨gb153, 3, none⟩ = some (.string (⟨#[]⟩ : ByteArray)) := (blk_cell BK153.out 3).trans rfl; have hfz18_0 := blk_frozen BK153.out 0; have hfz18_1 := blk_frozen BK153.out 1; have hfz18_2 := blk_frozen BK153.out 2; have hfz18_3 := blk_frozen BK153.out 3) | ((with_reducible refine gate_callee (f := 59) rfl ?_); refine goesL_ (some 26) rfl rfl Tryd.func59 (by kernel_rfl) rfl #[.string t157, .string (⟨#[43]⟩ : ByteArray)] rfl (by (try simp only [List.map_toArray, List.map_cons, List.map_nil]); first | done | rfl | (simp only [List.length_drop, List.length_take]; rfl)) ?_; (with_reducible refine (strings_TrimPrefix.calls t157 (⟨#[43]⟩ : ByteArray) t159 _ A15.out).mono ?_); rintro e w' ⟨rfl, ⟨nd, rfl⟩⟩; refine ⟨_, rfl, ?_⟩))
    go_meet
    case rel => exact ⟨_, (0), (t156), (t159), H', ⟨by first | omega | exact Nat.le_refl _⟩, ⟨by (with_reducible repeat (first | refine blk_drewN ?_ _ | refine blk_drew ?_ | refine blk_alloc ?_ _)); refine blk_far ?_ NB152_153.out _; (with_reducible repeat (first | refine blk_drewN ?_ _ | refine blk_drew ?_ | refine blk_alloc ?_ _)); refine blk_far ?_ NB152_153.out _; (with_reducible repeat (first | refine blk_drewN ?_ _ | refine blk_drew ?_ | refine blk_alloc ?_ _)); refine blk_far ?_ NB152_153.out _; (with_reducible repeat (first | refine blk_drewN ?_ _ | refine blk_drew ?_ | refine blk_alloc ?_ _)); exact BK152.out⟩, ⟨by (with_reducible repeat (first | refine blk_drewN ?_ _ | refine blk_drew ?_ | refine blk_alloc ?_ _)); refine blk_put (cs := #[.int .i64 0, .bool t155, .string t156, .string t157]) ?_ 3 _ rfl; (with_reducible repeat (first | refine blk_drewN ?_ _ | refine blk_drew ?_ | refine blk_alloc ?_ _)); refine blk_put (cs := #[.int .i64 0, .bool t155, .string t156, .string (⟨#[]⟩ : ByteArray)]) ?_ 3 _ rfl; (with_reducible repeat (first | refine blk_drewN ?_ _ | refine blk_drew ?_ | refine blk_alloc ?_ _)); refine blk_put (cs := #[.int .i64 0, .bool t155, .string (⟨#[]⟩ : ByteArray), .string (⟨#[]⟩ : ByteArray)]) ?_ 2 _ rfl; (with_reducible repeat (first | refine blk_drewN ?_ _ | refine blk_drew ?_ | refine blk_alloc ?_ _)); exact BK153.out⟩, ⟨bl⟩⟩
 case rest =>
  clear HC3
  try clear c1; try clear p2; try clear c3; try clear c5; try clear c6; try clear c8; try clear c8b0; try clear c8b1; try clear c9; try clear c11; try clear c11b0; try clear c11b1; try clear c12; try clear c17; try clear hcz10_0; try clear hcz10_1; try clear hcz10_2; try clear hcz10_3; try clear hcz13_0; try clear hcz13_1; try clear hcz13_2; try clear hcz13_3; try clear hcz18_0; try clear hcz18_1; try clear hcz18_2; try clear hcz18_3; try clear hcz7_0; try clear hcz7_1; try clear hcz7_2; try clear hcz7_3; try clear hfz10_0; try clear hfz10_1; try clear hfz10_2; try clear hfz10_3; try clear hfz13_0; try clear hfz13_1; try clear hfz13_2; try clear hfz13_3; try clear hfz18_0; try clear hfz18_1; try clear hfz18_2; try clear hfz18_3; try clear hfz7_0; try clear hfz7_1; try clear hfz7_2; try clear hfz7_3
  obtain ⟨kq, x154000_2, x154002_2, x154003_2, HA, HJ2, BK152, BK153, HB⟩ := hcut
  cases kq with
  | zero => exact absurd HA.out (by simp [dec_Parse.j0])
  | succ kj2 =>
   have H := HA.out
   clear HA
   simp only [dec_Parse.j0] at H
   replace H := Option.bind_eq_some_iff.mp H
   obtain ⟨t160, A190, H⟩ := H
   replace H : (if t160 = true then ((dec_Print.f kj2 x154000_2 t155 x154002_2 x154003_2).bind fun t161 => (if t161.toList = a0.toList then (some (x154000_2, t155, x154002_2, x154003_2, true)) else (some (0, false, (⟨#[]⟩ : ByteArray), (⟨#[]⟩ : ByteArray), false)))) else (some (0, false, (⟨#[]⟩ : ByteArray), (⟨#[]⟩ : ByteArray), false))) = some (r1, r2, r3, r4, r5) := H
   have A19 := Aside0.mk A190
   clear A190
   by_cases c20 : t160 = true
   ·subst c20
    have H1 : ((dec_Print.f kj2 x154000_2 t155 x154002_2 x154003_2).bind fun t161 => (if t161.toList = a0.toList then (some (x154000_2, t155, x154002_2, x154003_2, true)) else (some (0, false, (⟨#[]⟩ : ByteArray), (⟨#[]⟩ : ByteArray), false)))) = some (r1, r2, r3, r4, r5) := by rw [if_pos rfl] at H; exact H
    clear H
    have H := H1
    clear H1
    replace H := Option.bind_eq_some_iff.mp H
    obtain ⟨t161, A210, H⟩ := H
    replace H : (if t161.toList = a0.toList then (some (x154000_2, t155, x154002_2, x154003_2, true)) else (some (0, false, (⟨#[]⟩ : ByteArray), (⟨#[]⟩ : ByteArray), false))) = some (r1, r2, r3, r4, r5) := H
    have A21 := Aside0.mk A210
    clear A210
    by_cases c22 : t161.toList = a0.toList
    ·rw [if_pos c22] at H
     have c22b0 : (t161.toList == a0.toList) = true := beq_iff_eq.mpr c22
     have c22b1 : (t161.toList != a0.toList) = false := bne_eq_false_iff_eq.mpr c22
     clear c22
     simp only [Option.some.injEq, Prod.mk.injEq] at H
     obtain ⟨rfl, rfl, rfl, rfl, rfl⟩ := H
     have hnb23 := NB153_152.out
     have hnc23 := NB152_153.out
     have hcz24_0 : wc.cell? ⟨gb153, 0, none⟩ = some (.int .i64 x154000_2) := (blk_cell BK153.out 0).trans rfl
     have hcz24_1 : wc.cell? ⟨gb153, 1, none⟩ = some (.bool t155) := (blk_cell BK153.out 1).trans rfl
     have hcz24_2 : wc.cell? ⟨gb153, 2, none⟩ = some (.string x154002_2) := (blk_cell BK153.out 2).trans rfl
     have hcz24_3 : wc.cell? ⟨gb153, 3, none⟩ = some (.string x154003_2) := (blk_cell BK153.out 3).trans rfl
     have hfz24_0 := blk_frozen BK153.out 0
     have hfz24_1 := blk_frozen BK153.out 1
     have hfz24_2 := blk_frozen BK153.out 2
     have hfz24_3 := blk_frozen BK153.out 3
     go_wp2_with (first | ((with_reducible refine gate_callee (f := 33) rfl ?_); refine goesL_ (some 35) rfl rfl Tryd.func33 (by kernel_rfl) rfl #[.agg #[.int .i64 x154000_2, .bool t155, .string x154002_2, .string x154003_2]] rfl (by (try simp only [List.map_toArray, List.map_cons, List.map_nil]); first | done | rfl | (simp only [List.length_drop, List.length_take]; rfl)) ?_; (with_reducible refine (dec_Good.calls kj2 x154000_2 t155 x154002_2 x154003_2 true _ A19.out).mono ?_); rintro e w25 ⟨rfl, hb⟩; refine ⟨_, rfl, ?_⟩; have n0_ := Aside0.mk (blk_below (g := gb152) (o := .cells #[.int .i64 0, .bool false, .string (⟨#[]⟩ : ByteArray), .string (⟨#[]⟩ : ByteArray)] 40 (0, 0)) bk hb); have n1_ := Aside0.mk (blk_below (g := gb153) (o := .cells #[.int .i64 x154000_2, .bool t155, .string x154002_2, .string x154003_2] 40 (0, 0)) bk hb); have n2_ := Aside0.mk (below_step bl hb); clear BK152; clear BK153; clear HB; have BK152 := n0_; have BK153 := n1_; have HB := n2_; clear n0_ n1_ n2_; (try clear hb); (try clear hb2); (try clear hk); (try clear hi); have hcz26_0 : w25.cell? ⟨gb153, 0, none⟩ = some (.int .i64 x154000_2) := (blk_cell BK153.out 0).trans rfl; have hcz26_1 : w25.cell? ⟨gb153, 1, none⟩ = some (.bool t155) := (blk_cell BK153.out 1).trans rfl; have hcz26_2 : w25.cell? ⟨gb153, 2, none⟩ = some (.string x154002_2) := (blk_cell BK153.out 2).trans rfl; have hcz26_3 : w25.cell? ⟨gb153, 3, none⟩ = some (.string x154003_2) := (blk_cell BK153.out 3).trans rfl; have hfz26_0 := blk_frozen BK153.out 0; have hfz26_1 := blk_frozen BK153.out 1; have hfz26_2 := blk_frozen BK153.out 2; have hfz26_3 := blk_frozen BK153.out 3) | (go_at_call 35; (try (rename_i hK_; simp only [List.append] at hK_)); (with_reducible refine (dec_Print.calls kj2 x154000_2 t155 x154002_2 x154003_2 t161 _ A21.out).mono ?_); rintro e w27 ⟨rfl, hb⟩; have n0_ := Aside0.mk (blk_below (g := gb152) (o := .cells #[.int .i64 0, .bool false, .string (⟨#[]⟩ : ByteArray), .string (⟨#[]⟩ : ByteArray)] 40 (0, 0)) bk hb); have n1_ := Aside0.mk (blk_below (g := gb153) (o := .cells #[.int .i64 x154000_2, .bool t155, .string x154002_2, .string x154003_2] 40 (0, 0)) bk hb); have n2_ := Aside0.mk (below_step bl hb); clear BK152; clear BK153; clear HB; have BK152 := n0_; have BK153 := n1_; have HB := n2_; clear n0_ n1_ n2_; (try clear hb); (try clear hb2); (try clear hk); (try clear hi); have hcz28_0 : w27.cell? ⟨gb153, 0, none⟩ = some (.int .i64 x154000_2) := (blk_cell BK153.out 0).trans rfl; have hcz28_1 : w27.cell? ⟨gb153, 1, none⟩ = some (.bool t155) := (blk_cell BK153.out 1).trans rfl; have hcz28_2 : w27.cell? ⟨gb153, 2, none⟩ = some (.string x154002_2) := (blk_cell BK153.out 2).trans rfl; have hcz28_3 : w27.cell? ⟨gb153, 3, none⟩ = some (.string x154003_2) := (blk_cell BK153.out 3).trans rfl; have hfz28_0 := blk_frozen BK153.out 0; have hfz28_1 := blk_frozen BK153.out 1; have hfz28_2 := blk_frozen BK153.out 2; have hfz28_3 := blk_frozen BK153.out 3; have hcz29_0 : w27.cell? ⟨gb152, 0, none⟩ = some (.int .i64 0) := (blk_cell BK152.out 0).trans rfl; have hcz29_1 : w27.cell? ⟨gb152, 1, none⟩ = some (.bool false) := (blk_cell BK152.out 1).trans rfl; have hcz29_2 : w27.cell? ⟨gb152, 2, none⟩ = some (.string (⟨#[]⟩ : ByteArray)) := (blk_cell BK152.out 2).trans rfl; have hcz29_3 : w27.cell? ⟨gb152, 3, none⟩ = some (.string (⟨#[]⟩ : ByteArray)) := (blk_cell BK152.out 3).trans rfl; have hfz29_0 := blk_frozen BK152.out 0; have hfz29_1 := blk_frozen BK152.out 1; have hfz29_2 := blk_frozen BK152.out 2; have hfz29_3 := blk_frozen BK152.out 3))
     refine bodyPost_ret (results_ct rfl _ _ gb152 40 #[.int .i64 x154000_2, .bool t155, .string x154002_2, .string x154003_2] (0, 0) _ rfl bk Tryd.underlying40 rfl (by kernel_rfl)) rfl ?_
     exact ⟨by first | rfl | (simp [errW_none, errW_some] <;> rfl) | (simp [*, errW_none, errW_some] <;> rfl), bl⟩
    ·rw [if_neg c22] at H
     have c22b0 : (t161.toList == a0.toList) = false := beq_eq_false_iff_ne.mpr c22
     have c22b1 : (t161.toList != a0.toList) = true := bne_iff_ne.mpr c22
     simp only [Option.some.injEq, Prod.mk.injEq] at H
     obtain ⟨rfl, rfl, rfl, rfl, rfl⟩ := H
     have hnb30 := NB153_152.out
     have hnc30 := NB152_153.out
     have hcz31_0 : wc.cell? ⟨gb153, 0, none⟩ = some (.int .i64 x154000_2) := (blk_cell BK153.out 0).trans rfl
     have hcz31_1 : wc.cell? ⟨gb153, 1, none⟩ = some (.bool t155) := (blk_cell BK153.out 1).trans rfl
     have hcz31_2 : wc.cell? ⟨gb153, 2, none⟩ = some (.string x154002_2) := (blk_cell BK153.out 2).trans rfl
     have hcz31_3 : wc.cell? ⟨gb153, 3, none⟩ = some (.string x154003_2) := (blk_cell BK153.out 3).trans rfl
     have hfz31_0 := blk_frozen BK153.out 0
     have hfz31_1 := blk_frozen BK153.out 1
     have hfz31_2 := blk_frozen BK153.out 2
     have hfz31_3 := blk_frozen BK153.out 3
     go_wp2_with (first | ((with_reducible refine gate_callee (f := 33) rfl ?_); refine goesL_ (some 35) rfl rfl Tryd.func33 (by kernel_rfl) rfl #[.agg #[.int .i64 x154000_2, .bool t155, .string x154002_2, .string x154003_2]] rfl (by (try simp only [List.map_toArray, List.map_cons, List.map_nil]); first | done | rfl | (simp only [List.length_drop, List.length_take]; rfl)) ?_; (with_reducible refine (dec_Good.calls kj2 x154000_2 t155 x154002_2 x154003_2 true _ A19.out).mono ?_); rintro e w32 ⟨rfl, hb⟩; refine ⟨_, rfl, ?_⟩; have n0_ := Aside0.mk (blk_below (g := gb152) (o := .cells #[.int .i64 0, .bool false, .string (⟨#[]⟩ : ByteArray), .string (⟨#[]⟩ : ByteArray)] 40 (0, 0)) bk hb); have n1_ := Aside0.mk (blk_below (g := gb153) (o := .cells #[.int .i64 x154000_2, .bool t155, .string x154002_2, .string x154003_2] 40 (0, 0)) bk hb); have n2_ := Aside0.mk (below_step bl hb); clear BK152; clear BK153; clear HB; have BK152 := n0_; have BK153 := n1_; have HB := n2_; clear n0_ n1_ n2_; (try clear hb); (try clear hb2); (try clear hk); (try clear hi); have hcz33_0 : w32.cell? ⟨gb153, 0, none⟩ = some (.int .i64 x154000_2) := (blk_cell BK153.out 0).trans rfl; have hcz33_1 : w32.cell? ⟨gb153, 1, none⟩ = some (.bool t155) := (blk_cell BK153.out 1).trans rfl; have hcz33_2 : w32.cell? ⟨gb153, 2, none⟩ = some (.string x154002_2) := (blk_cell BK153.out 2).trans rfl; have hcz33_3 : w32.cell? ⟨gb153, 3, none⟩ = some (.string x154003_2) := (blk_cell BK153.out 3).trans rfl; have hfz33_0 := blk_frozen BK153.out 0; have hfz33_1 := blk_frozen BK153.out 1; have hfz33_2 := blk_frozen BK153.out 2; have hfz33_3 := blk_frozen BK153.out 3) | (go_at_call 35; (try (rename_i hK_; simp only [List.append] at hK_)); (with_reducible refine (dec_Print.calls kj2 x154000_2 t155 x154002_2 x154003_2 t161 _ A21.out).mono ?_); rintro e w34 ⟨rfl, hb⟩; have n0_ := Aside0.mk (blk_below (g := gb152) (o := .cells #[.int .i64 0, .bool false, .string (⟨#[]⟩ : ByteArray), .string (⟨#[]⟩ : ByteArray)] 40 (0, 0)) bk hb); have n1_ := Aside0.mk (blk_below (g := gb153) (o := .cells #[.int .i64 x154000_2, .bool t155, .string x154002_2, .string x154003_2] 40 (0, 0)) bk hb); have n2_ := Aside0.mk (below_step bl hb); clear BK152; clear BK153; clear HB; have BK152 := n0_; have BK153 := n1_; have HB := n2_; clear n0_ n1_ n2_; (try clear hb); (try clear hb2); (try clear hk); (try clear hi); have hcz35_0 : w34.cell? ⟨gb152, 0, none⟩ = some (.int .i64 0) := (blk_cell BK152.out 0).trans rfl; have hcz35_1 : w34.cell? ⟨gb152, 1, none⟩ = some (.bool false) := (blk_cell BK152.out 1).trans rfl; have hcz35_2 : w34.cell? ⟨gb152, 2, none⟩ = some (.string (⟨#[]⟩ : ByteArray)) := (blk_cell BK152.out 2).trans rfl; have hcz35_3 : w34.cell? ⟨gb152, 3, none⟩ = some (.string (⟨#[]⟩ : ByteArray)) := (blk_cell BK152.out 3).trans rfl; have hfz35_0 := blk_frozen BK152.out 0; have hfz35_1 := blk_frozen BK152.out 1; have hfz35_2 := blk_frozen BK152.out 2; have hfz35_3 := blk_frozen BK152.out 3))
     refine bodyPost_ret (results_ct rfl _ _ gb152 40 #[.int .i64 0, .bool false, .string (⟨#[]⟩ : ByteArray), .string (⟨#[]⟩ : ByteArray)] (0, 0) _ rfl bk Tryd.underlying40 rfl (by kernel_rfl)) rfl ?_
     exact ⟨by first | rfl | (simp [errW_none, errW_some] <;> rfl) | (simp [*, errW_none, errW_some] <;> rfl), bl⟩
   ·replace c20 := Bool.eq_false_iff.mpr c20
    subst c20
    have H1 : (some (0, false, (⟨#[]⟩ : ByteArray), (⟨#[]⟩ : ByteArray), false)) = some (r1, r2, r3, r4, r5) := by rw [if_neg (show ¬ (false = true) by decide)] at H; exact H
    clear H
    have H := H1
    clear H1
    simp only [Option.some.injEq, Prod.mk.injEq] at H
    obtain ⟨rfl, rfl, rfl, rfl, rfl⟩ := H
    have hnb36 := NB153_152.out
    have hnc36 := NB152_153.out
    have hcz37_0 : wc.cell? ⟨gb153, 0, none⟩ = some (.int .i64 x154000_2) := (blk_cell BK153.out 0).trans rfl
    have hcz37_1 : wc.cell? ⟨gb153, 1, none⟩ = some (.bool t155) := (blk_cell BK153.out 1).trans rfl
    have hcz37_2 : wc.cell? ⟨gb153, 2, none⟩ = some (.string x154002_2) := (blk_cell BK153.out 2).trans rfl
    have hcz37_3 : wc.cell? ⟨gb153, 3, none⟩ = some (.string x154003_2) := (blk_cell BK153.out 3).trans rfl
    have hfz37_0 := blk_frozen BK153.out 0
    have hfz37_1 := blk_frozen BK153.out 1
    have hfz37_2 := blk_frozen BK153.out 2
    have hfz37_3 := blk_frozen BK153.out 3
    go_wp2_with (first | ((with_reducible refine gate_callee (f := 33) rfl ?_); refine goesL_ (some 35) rfl rfl Tryd.func33 (by kernel_rfl) rfl #[.agg #[.int .i64 x154000_2, .bool t155, .string x154002_2, .string x154003_2]] rfl (by (try simp only [List.map_toArray, List.map_cons, List.map_nil]); first | done | rfl | (simp only [List.length_drop, List.length_take]; rfl)) ?_; (with_reducible refine (dec_Good.calls kj2 x154000_2 t155 x154002_2 x154003_2 false _ A19.out).mono ?_); rintro e w38 ⟨rfl, hb⟩; refine ⟨_, rfl, ?_⟩; have n0_ := Aside0.mk (blk_below (g := gb152) (o := .cells #[.int .i64 0, .bool false, .string (⟨#[]⟩ : ByteArray), .string (⟨#[]⟩ : ByteArray)] 40 (0, 0)) bk hb); have n1_ := Aside0.mk (blk_below (g := gb153) (o := .cells #[.int .i64 x154000_2, .bool t155, .string x154002_2, .string x154003_2] 40 (0, 0)) bk hb); have n2_ := Aside0.mk (below_step bl hb); clear BK152; clear BK153; clear HB; have BK152 := n0_; have BK153 := n1_; have HB := n2_; clear n0_ n1_ n2_; (try clear hb); (try clear hb2); (try clear hk); (try clear hi); have hcz39_0 : w38.cell? ⟨gb152, 0, none⟩ = some (.int .i64 0) := (blk_cell BK152.out 0).trans rfl; have hcz39_1 : w38.cell? ⟨gb152, 1, none⟩ = some (.bool false) := (blk_cell BK152.out 1).trans rfl; have hcz39_2 : w38.cell? ⟨gb152, 2, none⟩ = some (.string (⟨#[]⟩ : ByteArray)) := (blk_cell BK152.out 2).trans rfl; have hcz39_3 : w38.cell? ⟨gb152, 3, none⟩ = some (.string (⟨#[]⟩ : ByteArray)) := (blk_cell BK152.out 3).trans rfl; have hfz39_0 := blk_frozen BK152.out 0; have hfz39_1 := blk_frozen BK152.out 1; have hfz39_2 := blk_frozen BK152.out 2; have hfz39_3 := blk_frozen BK152.out 3))
    refine bodyPost_ret (results_ct rfl _ _ gb152 40 #[.int .i64 0, .bool false, .string (⟨#[]⟩ : ByteArray), .string (⟨#[]⟩ : ByteArray)] (0, 0) _ rfl bk Tryd.underlying40 rfl (by kernel_rfl)) rfl ?_
    exact ⟨by first | rfl | (simp [errW_none, errW_some] <;> rfl) | (simp [*, errW_none, errW_some] <;> rfl), bl⟩

/-! ### targumlaw5_known: function 28 -/
def targumlaw5_known.f (k : Nat)  : Option (Bool) := (dec_Make.f k false (⟨#[48, 49]⟩ : ByteArray) (⟨#[53, 48]⟩ : ByteArray) (⟨#[48]⟩ : ByteArray)).bind fun bt162 => ((dec_Parse.f k (⟨#[49, 48, 46, 101, 43, 48]⟩ : ByteArray)).bind fun bt168 => ((dec_Make.f k true (⟨#[]⟩ : ByteArray) (⟨#[48, 48, 48]⟩ : ByteArray) (⟨#[55]⟩ : ByteArray)).bind fun bt174 => (if bt162.2.2.2.2 = true then (if (bt162.1 == 0 && (!bt162.2.1 && (bt162.2.2.1.toList == ([49, 53] : List UInt8) && (bt162.2.2.2.1.toList == ([45, 49] : List UInt8))))) = true then ((dec_Print.f k bt162.1 bt162.2.1 bt162.2.2.1 bt162.2.2.2.1).bind fun t180 => (if t180.toList = ([49, 53, 46, 101, 45, 49] : List UInt8) then (if bt168.2.2.2.2 = true then (some false) else (if bt174.2.2.2.2 = true then (if (bt174.1 == 0 && (bt174.2.1 && (bt174.2.2.1.toList == ([48] : List UInt8) && (bt174.2.2.2.1.toList == ([48] : List UInt8))))) = true then ((dec_Print.f k 1 true (⟨#[]⟩ : ByteArray) (⟨#[]⟩ : ByteArray)).bind fun t181 => (if t181.toList = ([45, 46, 105, 110, 102] : List UInt8) then ((dec_Good.f k 2 true (⟨#[]⟩ : ByteArray) (⟨#[]⟩ : ByteArray)).bind fun t182 => (some (!t182))) else (some false))) else (some false)) else (some false))) else (some false))) else (some false)) else (some false))))
theorem targumlaw5_known.mono : ∀ k, LeO (targumlaw5_known.f k ) (targumlaw5_known.f (k + 1) ) := by
 intro  k
 unfold targumlaw5_known.f
 repeat' first
   | (with_reducible exact dec_Good.mono _ _ _ _ _)
   | (with_reducible exact dec_Make.mono _ _ _ _ _)
   | (with_reducible exact dec_Parse.mono _ _)
   | (with_reducible exact dec_Print.mono _ _ _ _ _)
   | (with_reducible exact LeO.refl _)
   | (with_reducible exact LeO.none _)
   | (with_reducible refine LeO.ite ?_ ?_)
   | (with_reducible refine LeO.bind ?_ (fun _ => ?_))
   | exact dec_Good.mono _ _ _ _ _
   | exact dec_Make.mono _ _ _ _ _
   | exact dec_Parse.mono _ _
   | exact dec_Print.mono _ _ _ _ _
   | exact LeO.none _
   | refine LeO.ite ?_ ?_
   | refine LeO.bind ?_ (fun _ => ?_)
set_option maxHeartbeats 8000000 in
set_option maxRecDepth 100000 in
theorem targumlaw5_known.calls (k : Nat)  (r : Bool) (w : World) (hG : Go.Proofs.YtddaggnomcoejaaDoor.PDT.Tabs w) (h : targumlaw5_known.f k  = some r) :
  Calls Tryd.prog 28 #[] w fun e w' => e = .returned (.bool r) ∧ Below w.heap.size w w' := by
 have hu40 := Tryd.underlying40
 have HG := Aside0.mk hG
 clear hG
 have HB := Aside0.mk (Below.refl w.heap.size w)
 have H : ((dec_Make.f k false (⟨#[48, 49]⟩ : ByteArray) (⟨#[53, 48]⟩ : ByteArray) (⟨#[48]⟩ : ByteArray)).bind fun bt162 => ((dec_Parse.f k (⟨#[49, 48, 46, 101, 43, 48]⟩ : ByteArray)).bind fun bt168 => ((dec_Make.f k true (⟨#[]⟩ : ByteArray) (⟨#[48, 48, 48]⟩ : ByteArray) (⟨#[55]⟩ : ByteArray)).bind fun bt174 => (if bt162.2.2.2.2 = true then (if (bt162.1 == 0 && (!bt162.2.1 && (bt162.2.2.1.toList == ([49, 53] : List UInt8) && (bt162.2.2.2.1.toList == ([45, 49] : List UInt8))))) = true then ((dec_Print.f k bt162.1 bt162.2.1 bt162.2.2.1 bt162.2.2.2.1).bind fun t180 => (if t180.toList = ([49, 53, 46, 101, 45, 49] : List UInt8) then (if bt168.2.2.2.2 = true then (some false) else (if bt174.2.2.2.2 = true then (if (bt174.1 == 0 && (bt174.2.1 && (bt174.2.2.1.toList == ([48] : List UInt8) && (bt174.2.2.2.1.toList == ([48] : List UInt8))))) = true then ((dec_Print.f k 1 true (⟨#[]⟩ : ByteArray) (⟨#[]⟩ : ByteArray)).bind fun t181 => (if t181.toList = ([45, 46, 105, 110, 102] : List UInt8) then ((dec_Good.f k 2 true (⟨#[]⟩ : ByteArray) (⟨#[]⟩ : ByteArray)).bind fun t182 => (some (!t182))) else (some false))) else (some false)) else (some false))) else (some false))) else (some false)) else (some false))))) = some r := h
 clear h
 replace H := Option.bind_eq_some_iff.mp H
 obtain ⟨⟨t162, t163, t164, t165, t166⟩, A10, H⟩ := H
 replace H : ((dec_Parse.f k (⟨#[49, 48, 46, 101, 43, 48]⟩ : ByteArray)).bind fun bt168 => ((dec_Make.f k true (⟨#[]⟩ : ByteArray) (⟨#[48, 48, 48]⟩ : ByteArray) (⟨#[55]⟩ : ByteArray)).bind fun bt174 => (if t166 = true then (if (t162 == 0 && (!t163 && (t164.toList == ([49, 53] : List UInt8) && (t165.toList == ([45, 49] : List UInt8))))) = true then ((dec_Print.f k t162 t163 t164 t165).bind fun t180 => (if t180.toList = ([49, 53, 46, 101, 45, 49] : List UInt8) then (if bt168.2.2.2.2 = true then (some false) else (if bt174.2.2.2.2 = true then (if (bt174.1 == 0 && (bt174.2.1 && (bt174.2.2.1.toList == ([48] : List UInt8) && (bt174.2.2.2.1.toList == ([48] : List UInt8))))) = true then ((dec_Print.f k 1 true (⟨#[]⟩ : ByteArray) (⟨#[]⟩ : ByteArray)).bind fun t181 => (if t181.toList = ([45, 46, 105, 110, 102] : List UInt8) then ((dec_Good.f k 2 true (⟨#[]⟩ : ByteArray) (⟨#[]⟩ : ByteArray)).bind fun t182 => (some (!t182))) else (some false))) else (some false)) else (some false))) else (some false))) else (some false)) else (some false)))) = some r := H
 have A1 := Aside0.mk A10
 clear A10
 replace H := Option.bind_eq_some_iff.mp H
 obtain ⟨⟨t168, t169, t170, t171, t172⟩, A20, H⟩ := H
 replace H : ((dec_Make.f k true (⟨#[]⟩ : ByteArray) (⟨#[48, 48, 48]⟩ : ByteArray) (⟨#[55]⟩ : ByteArray)).bind fun bt174 => (if t166 = true then (if (t162 == 0 && (!t163 && (t164.toList == ([49, 53] : List UInt8) && (t165.toList == ([45, 49] : List UInt8))))) = true then ((dec_Print.f k t162 t163 t164 t165).bind fun t180 => (if t180.toList = ([49, 53, 46, 101, 45, 49] : List UInt8) then (if t172 = true then (some false) else (if bt174.2.2.2.2 = true then (if (bt174.1 == 0 && (bt174.2.1 && (bt174.2.2.1.toList == ([48] : List UInt8) && (bt174.2.2.2.1.toList == ([48] : List UInt8))))) = true then ((dec_Print.f k 1 true (⟨#[]⟩ : ByteArray) (⟨#[]⟩ : ByteArray)).bind fun t181 => (if t181.toList = ([45, 46, 105, 110, 102] : List UInt8) then ((dec_Good.f k 2 true (⟨#[]⟩ : ByteArray) (⟨#[]⟩ : ByteArray)).bind fun t182 => (some (!t182))) else (some false))) else (some false)) else (some false))) else (some false))) else (some false)) else (some false))) = some r := H
 have A2 := Aside0.mk A20
 clear A20
 replace H := Option.bind_eq_some_iff.mp H
 obtain ⟨⟨t174, t175, t176, t177, t178⟩, A30, H⟩ := H
 replace H : (if t166 = true then (if (t162 == 0 && (!t163 && (t164.toList == ([49, 53] : List UInt8) && (t165.toList == ([45, 49] : List UInt8))))) = true then ((dec_Print.f k t162 t163 t164 t165).bind fun t180 => (if t180.toList = ([49, 53, 46, 101, 45, 49] : List UInt8) then (if t172 = true then (some false) else (if t178 = true then (if (t174 == 0 && (t175 && (t176.toList == ([48] : List UInt8) && (t177.toList == ([48] : List UInt8))))) = true then ((dec_Print.f k 1 true (⟨#[]⟩ : ByteArray) (⟨#[]⟩ : ByteArray)).bind fun t181 => (if t181.toList = ([45, 46, 105, 110, 102] : List UInt8) then ((dec_Good.f k 2 true (⟨#[]⟩ : ByteArray) (⟨#[]⟩ : ByteArray)).bind fun t182 => (some (!t182))) else (some false))) else (some false)) else (some false))) else (some false))) else (some false)) else (some false)) = some r := H
 have A3 := Aside0.mk A30
 clear A30
 refine Classical.byCases (p := (t166 = true)) (fun c4 => ?x15) (fun c4 => ?y15)
 case' x15 =>
  subst c4
  have H1 : (if (t162 == 0 && (!t163 && (t164.toList == ([49, 53] : List UInt8) && (t165.toList == ([45, 49] : List UInt8))))) = true then ((dec_Print.f k t162 t163 t164 t165).bind fun t180 => (if t180.toList = ([49, 53, 46, 101, 45, 49] : List UInt8) then (if t172 = true then (some false) else (if t178 = true then (if (t174 == 0 && (t175 && (t176.toList == ([48] : List UInt8) && (t177.toList == ([48] : List UInt8))))) = true then ((dec_Print.f k 1 true (⟨#[]⟩ : ByteArray) (⟨#[]⟩ : ByteArray)).bind fun t181 => (if t181.toList = ([45, 46, 105, 110, 102] : List UInt8) then ((dec_Good.f k 2 true (⟨#[]⟩ : ByteArray) (⟨#[]⟩ : ByteArray)).bind fun t182 => (some (!t182))) else (some false))) else (some false)) else (some false))) else (some false))) else (some false)) = some r := by rw [if_pos rfl] at H; exact H
  clear H
  have H := H1
  clear H1
  refine Classical.byCases (p := ((t162 == 0 && (!t163 && (t164.toList == ([49, 53] : List UInt8) && (t165.toList == ([45, 49] : List UInt8))))) = true)) (fun c5 => ?x16) (fun c5 => ?y16)
  case' x16 =>
   rw [if_pos c5] at H
   have c5b0 : (t162 == 0 && (!t163 && (t164.toList == ([49, 53] : List UInt8) && (t165.toList == ([45, 49] : List UInt8))))) = true := c5
   (try (have c5b1 : decide (t162 = 0 && (!t163 && (t164.toList == ([49, 53] : List UInt8) && (t165.toList == ([45, 49] : List UInt8))))) = true := by simpa using c5))
   (try (have c5b2 : (t162 == 0 && (!t163 && (t164.toList == ([49, 53] : List UInt8) && (t165.toList == ([45, 49] : List UInt8))))) = true := by simpa using c5))
   clear c5
   replace H := Option.bind_eq_some_iff.mp H
   obtain ⟨t180, A60, H⟩ := H
   replace H : (if t180.toList = ([49, 53, 46, 101, 45, 49] : List UInt8) then (if t172 = true then (some false) else (if t178 = true then (if (t174 == 0 && (t175 && (t176.toList == ([48] : List UInt8) && (t177.toList == ([48] : List UInt8))))) = true then ((dec_Print.f k 1 true (⟨#[]⟩ : ByteArray) (⟨#[]⟩ : ByteArray)).bind fun t181 => (if t181.toList = ([45, 46, 105, 110, 102] : List UInt8) then ((dec_Good.f k 2 true (⟨#[]⟩ : ByteArray) (⟨#[]⟩ : ByteArray)).bind fun t182 => (some (!t182))) else (some false))) else (some false)) else (some false))) else (some false)) = some r := H
   have A6 := Aside0.mk A60
   clear A60
   refine Classical.byCases (p := (t180.toList = ([49, 53, 46, 101, 45, 49] : List UInt8))) (fun c7 => ?x17) (fun c7 => ?y17)
   case' x17 =>
    rw [if_pos c7] at H
    have c7b0 : (t180.toList == ([49, 53, 46, 101, 45, 49] : List UInt8)) = true := beq_iff_eq.mpr c7
    have c7b1 : (t180.toList != ([49, 53, 46, 101, 45, 49] : List UInt8)) = false := bne_eq_false_iff_eq.mpr c7
    clear c7
    refine Classical.byCases (p := (t172 = true)) (fun c8 => ?x18) (fun c8 => ?y18)
    case' x18 =>
     subst c8
     have H1 : (some false) = some r := by rw [if_pos rfl] at H; exact H
     clear H
     have H := H1
     clear H1
     obtain rfl := Option.some.inj H
     go_enter Tryd.func28, Tryd.ntmps28
     skip
    case' y18 =>
     replace c8 := Bool.eq_false_iff.mpr c8
     subst c8
     have H1 : (if t178 = true then (if (t174 == 0 && (t175 && (t176.toList == ([48] : List UInt8) && (t177.toList == ([48] : List UInt8))))) = true then ((dec_Print.f k 1 true (⟨#[]⟩ : ByteArray) (⟨#[]⟩ : ByteArray)).bind fun t181 => (if t181.toList = ([45, 46, 105, 110, 102] : List UInt8) then ((dec_Good.f k 2 true (⟨#[]⟩ : ByteArray) (⟨#[]⟩ : ByteArray)).bind fun t182 => (some (!t182))) else (some false))) else (some false)) else (some false)) = some r := by rw [if_neg (show ¬ (false = true) by decide)] at H; exact H
     clear H
     have H := H1
     clear H1
     refine Classical.byCases (p := (t178 = true)) (fun c23 => ?x19) (fun c23 => ?y19)
     case' x19 =>
      subst c23
      have H1 : (if (t174 == 0 && (t175 && (t176.toList == ([48] : List UInt8) && (t177.toList == ([48] : List UInt8))))) = true then ((dec_Print.f k 1 true (⟨#[]⟩ : ByteArray) (⟨#[]⟩ : ByteArray)).bind fun t181 => (if t181.toList = ([45, 46, 105, 110, 102] : List UInt8) then ((dec_Good.f k 2 true (⟨#[]⟩ : ByteArray) (⟨#[]⟩ : ByteArray)).bind fun t182 => (some (!t182))) else (some false))) else (some false)) = some r := by rw [if_pos rfl] at H; exact H
      clear H
      have H := H1
      clear H1
      refine Classical.byCases (p := ((t174 == 0 && (t175 && (t176.toList == ([48] : List UInt8) && (t177.toList == ([48] : List UInt8))))) = true)) (fun c24 => ?x20) (fun c24 => ?y20)
      case' x20 =>
       rw [if_pos c24] at H
       have c24b0 : (t174 == 0 && (t175 && (t176.toList == ([48] : List UInt8) && (t177.toList == ([48] : List UInt8))))) = true := c24
       (try (have c24b1 : decide (t174 = 0 && (t175 && (t176.toList == ([48] : List UInt8) && (t177.toList == ([48] : List UInt8))))) = true := by simpa using c24))
       (try (have c24b2 : (t174 == 0 && (t175 && (t176.toList == ([48] : List UInt8) && (t177.toList == ([48] : List UInt8))))) = true := by simpa using c24))
       clear c24
       replace H := Option.bind_eq_some_iff.mp H
       obtain ⟨t181, A250, H⟩ := H
       replace H : (if t181.toList = ([45, 46, 105, 110, 102] : List UInt8) then ((dec_Good.f k 2 true (⟨#[]⟩ : ByteArray) (⟨#[]⟩ : ByteArray)).bind fun t182 => (some (!t182))) else (some false)) = some r := H
       have A25 := Aside0.mk A250
       clear A250
       refine Classical.byCases (p := (t181.toList = ([45, 46, 105, 110, 102] : List UInt8))) (fun c26 => ?x21) (fun c26 => ?y21)
       case' x21 =>
        rw [if_pos c26] at H
        have c26b0 : (t181.toList == ([45, 46, 105, 110, 102] : List UInt8)) = true := beq_iff_eq.mpr c26
        have c26b1 : (t181.toList != ([45, 46, 105, 110, 102] : List UInt8)) = false := bne_eq_false_iff_eq.mpr c26
        clear c26
        replace H := Option.bind_eq_some_iff.mp H
        obtain ⟨t182, A270, H⟩ := H
        replace H : (some (!t182)) = some r := H
        have A27 := Aside0.mk A270
        clear A270
        obtain rfl := Option.some.inj H
        go_enter Tryd.func28, Tryd.ntmps28
        skip
       case' y21 =>
        rw [if_neg c26] at H
        have c26b0 : (t181.toList == ([45, 46, 105, 110, 102] : List UInt8)) = false := beq_eq_false_iff_ne.mpr c26
        have c26b1 : (t181.toList != ([45, 46, 105, 110, 102] : List UInt8)) = true := bne_iff_ne.mpr c26
        obtain rfl := Option.some.inj H
        go_enter Tryd.func28, Tryd.ntmps28
        skip
      case' y20 =>
       rw [if_neg c24] at H
       have c24b0 : (t174 == 0 && (t175 && (t176.toList == ([48] : List UInt8) && (t177.toList == ([48] : List UInt8))))) = false := by simpa using c24
       (try (have c24b1 : decide (t174 = 0 && (t175 && (t176.toList == ([48] : List UInt8) && (t177.toList == ([48] : List UInt8))))) = false := by simpa using c24))
       (try (have c24b2 : (t174 == 0 && (t175 && (t176.toList == ([48] : List UInt8) && (t177.toList == ([48] : List UInt8))))) = false := by simpa using c24))
       (try (have c24b3 : ¬ (t174 = 0 && (t175 && (t176.toList == ([48] : List UInt8) && (t177.toList == ([48] : List UInt8))))) := by simpa using c24))
       clear c24
       obtain rfl := Option.some.inj H
       go_enter Tryd.func28, Tryd.ntmps28
       skip
     case' y19 =>
      replace c23 := Bool.eq_false_iff.mpr c23
      subst c23
      have H1 : (some false) = some r := by rw [if_neg (show ¬ (false = true) by decide)] at H; exact H
      clear H
      have H := H1
      clear H1
      obtain rfl := Option.some.inj H
      go_enter Tryd.func28, Tryd.ntmps28
      skip
   case' y17 =>
    rw [if_neg c7] at H
    have c7b0 : (t180.toList == ([49, 53, 46, 101, 45, 49] : List UInt8)) = false := beq_eq_false_iff_ne.mpr c7
    have c7b1 : (t180.toList != ([49, 53, 46, 101, 45, 49] : List UInt8)) = true := bne_iff_ne.mpr c7
    obtain rfl := Option.some.inj H
    go_enter Tryd.func28, Tryd.ntmps28
    skip
  case' y16 =>
   rw [if_neg c5] at H
   have c5b0 : (t162 == 0 && (!t163 && (t164.toList == ([49, 53] : List UInt8) && (t165.toList == ([45, 49] : List UInt8))))) = false := by simpa using c5
   (try (have c5b1 : decide (t162 = 0 && (!t163 && (t164.toList == ([49, 53] : List UInt8) && (t165.toList == ([45, 49] : List UInt8))))) = false := by simpa using c5))
   (try (have c5b2 : (t162 == 0 && (!t163 && (t164.toList == ([49, 53] : List UInt8) && (t165.toList == ([45, 49] : List UInt8))))) = false := by simpa using c5))
   (try (have c5b3 : ¬ (t162 = 0 && (!t163 && (t164.toList == ([49, 53] : List UInt8) && (t165.toList == ([45, 49] : List UInt8))))) := by simpa using c5))
   clear c5
   obtain rfl := Option.some.inj H
   go_enter Tryd.func28, Tryd.ntmps28
   skip
 case' y15 =>
  replace c4 := Bool.eq_false_iff.mpr c4
  subst c4
  have H1 : (some false) = some r := by rw [if_neg (show ¬ (false = true) by decide)] at H; exact H
  clear H
  have H := H1
  clear H1
  obtain rfl := Option.some.inj H
  go_enter Tryd.func28, Tryd.ntmps28
  skip
 case x18 | x21 | y21 | y20 | y19 | y17 | y16 | y15 =>
  as_aux_lemma =>
   go_wp2_with (first | ((with_reducible refine gate_callee (f := 29) rfl ?_); refine goesL_ (some 8) rfl rfl Tryd.func29 (by kernel_rfl) rfl #[.bool false, .string (⟨#[48, 49]⟩ : ByteArray), .string (⟨#[53, 48]⟩ : ByteArray), .string (⟨#[48]⟩ : ByteArray)] rfl (by (try simp only [List.map_toArray, List.map_cons, List.map_nil]); first | done | rfl | (simp only [List.length_drop, List.length_take]; rfl)) ?_; (with_reducible refine (dec_Make.calls _ _ _ _ _ _ _ _ _ _ _ ?side1 A1.out).mono ?_); (case side1 => exact Go.Proofs.YtddaggnomcoejaaDoor.PDT.Tabs_below HG.out bl); rintro e w28 ⟨rfl, hb⟩; refine ⟨_, rfl, ?_⟩; have n0_ := Aside0.mk (below_step bl hb); clear HB; have HB := n0_; clear n0_; (try clear hb); (try clear hb2); (try clear hk); (try clear hi)) | ((with_reducible refine gate_dst (N := 1) rfl ?_); refine box_event ?hg (N := 1) ?hd (cs := #[.int .i64 0, .bool false, .string (⟨#[]⟩ : ByteArray), .string (⟨#[]⟩ : ByteArray)]) (t := 40) ?hr ?_; (case hd => rfl); (case hg => rfl); (case hr => first | (go_simp; done) | (go_simp; rfl)); intro gb167 hg w29 hbox hb; have n0_ := Aside0.mk (below_step bl hb); have n1_ := Aside0.mk (hbox); have n2_ := Aside0.mk ((by rw [hg]; exact (below_size bl) : w.heap.size ≤ gb167)); have n3_ := Aside0.mk ((by rw [hg]; exact (below_size bl) : w.heap.size ≤ gb167)); clear HB; have HB := n0_; have BK167 := n1_; have GW167 := n2_; have GE167 := n3_; clear n0_ n1_ n2_ n3_; clear hb hbox hg; have hcz30_0 : w29.cell? ⟨gb167, 0, none⟩ = some (.int .i64 0) := (blk_cell BK167.out 0).trans rfl; have hcz30_1 : w29.cell? ⟨gb167, 1, none⟩ = some (.bool false) := (blk_cell BK167.out 1).trans rfl; have hcz30_2 : w29.cell? ⟨gb167, 2, none⟩ = some (.string (⟨#[]⟩ : ByteArray)) := (blk_cell BK167.out 2).trans rfl; have hcz30_3 : w29.cell? ⟨gb167, 3, none⟩ = some (.string (⟨#[]⟩ : ByteArray)) := (blk_cell BK167.out 3).trans rfl; have hfz30_0 := blk_frozen BK167.out 0; have hfz30_1 := blk_frozen BK167.out 1; have hfz30_2 := blk_frozen BK167.out 2; have hfz30_3 := blk_frozen BK167.out 3) | ((with_reducible refine gate_callee (f := 31) rfl ?_); refine goesL_ (some 12) rfl rfl Tryd.func31 (by kernel_rfl) rfl #[.string (⟨#[49, 48, 46, 101, 43, 48]⟩ : ByteArray)] rfl (by (try simp only [List.map_toArray, List.map_cons, List.map_nil]); first | done | rfl | (simp only [List.length_drop, List.length_take]; rfl)) ?_; (with_reducible refine (dec_Parse.calls _ _ _ _ _ _ _ _ ?side1 A2.out).mono ?_); (case side1 => exact Go.Proofs.YtddaggnomcoejaaDoor.PDT.Tabs_below HG.out bl); rintro e w31 ⟨rfl, hb⟩; refine ⟨_, rfl, ?_⟩; have n0_ := Aside0.mk (blk_below (g := gb167) (o := .cells #[.int .i64 t162, .bool t163, .string t164, .string t165] 40 (0, 0)) bk hb); have n1_ := Aside0.mk (below_step bl hb); clear BK167; clear HB; have BK167 := n0_; have HB := n1_; clear n0_ n1_; (try clear hb); (try clear hb2); (try clear hk); (try clear hi)) | ((with_reducible refine gate_dst (N := 3) rfl ?_); refine box_event ?hg (N := 3) ?hd (cs := #[.int .i64 0, .bool false, .string (⟨#[]⟩ : ByteArray), .string (⟨#[]⟩ : ByteArray)]) (t := 40) ?hr ?_; (case hd => rfl); (case hg => rfl); (case hr => first | (go_simp; done) | (go_simp; rfl)); intro gb173 hg w32 hbox hb; have n0_ := Aside0.mk (blk_below (g := gb167) (o := .cells #[.int .i64 t162, .bool t163, .string t164, .string t165] 40 (0, 0)) bk hb); have n1_ := Aside0.mk (below_step bl hb); have n2_ := Aside0.mk (hbox); have n3_ := Aside0.mk ((by rw [hg]; exact (below_size bl) : w.heap.size ≤ gb173)); have n4_ := Aside0.mk ((by rw [hg]; exact (below_size bl) : w.heap.size ≤ gb173)); have n5_ := Aside0.mk ((by rw [hg]; exact Nat.ne_of_lt (blk_lt (g := gb167) (o := .cells #[.int .i64 t162, .bool t163, .string t164, .string t165] 40 (0, 0)) bk) : gb167 ≠ gb173)); have n6_ := Aside0.mk ((by rw [hg]; exact Nat.ne_of_gt (blk_lt (g := gb167) (o := .cells #[.int .i64 t162, .bool t163, .string t164, .string t165] 40 (0, 0)) bk) : gb173 ≠ gb167)); clear BK167; clear HB; have BK167 := n0_; have HB := n1_; have BK173 := n2_; have GW173 := n3_; have GE173 := n4_; have NB167_173 := n5_; have NB173_167 := n6_; clear n0_ n1_ n2_ n3_ n4_ n5_ n6_; clear hb hbox hg; have hnb33 := NB173_167.out; have hnc33 := NB167_173.out; have hcz34_0 : w32.cell? ⟨gb173, 0, none⟩ = some (.int .i64 0) := (blk_cell BK173.out 0).trans rfl; have hcz34_1 : w32.cell? ⟨gb173, 1, none⟩ = some (.bool false) := (blk_cell BK173.out 1).trans rfl; have hcz34_2 : w32.cell? ⟨gb173, 2, none⟩ = some (.string (⟨#[]⟩ : ByteArray)) := (blk_cell BK173.out 2).trans rfl; have hcz34_3 : w32.cell? ⟨gb173, 3, none⟩ = some (.string (⟨#[]⟩ : ByteArray)) := (blk_cell BK173.out 3).trans rfl; have hfz34_0 := blk_frozen BK173.out 0; have hfz34_1 := blk_frozen BK173.out 1; have hfz34_2 := blk_frozen BK173.out 2; have hfz34_3 := blk_frozen BK173.out 3) | ((with_reducible refine gate_callee (f := 29) rfl ?_); refine goesL_ (some 16) rfl rfl Tryd.func29 (by kernel_rfl) rfl #[.bool true, .string (⟨#[]⟩ : ByteArray), .string (⟨#[48, 48, 48]⟩ : ByteArray), .string (⟨#[55]⟩ : ByteArray)] rfl (by (try simp only [List.map_toArray, List.map_cons, List.map_nil]); first | done | rfl | (simp only [List.length_drop, List.length_take]; rfl)) ?_; (with_reducible refine (dec_Make.calls _ _ _ _ _ _ _ _ _ _ _ ?side1 A3.out).mono ?_); (case side1 => exact Go.Proofs.YtddaggnomcoejaaDoor.PDT.Tabs_below HG.out bl); rintro e w35 ⟨rfl, hb⟩; refine ⟨_, rfl, ?_⟩; have n0_ := Aside0.mk (blk_below (g := gb167) (o := .cells #[.int .i64 t162, .bool t163, .string t164, .string t165] 40 (0, 0)) bk hb); have n1_ := Aside0.mk (blk_below (g := gb173) (o := .cells #[.int .i64 t168, .bool t169, .string t170, .string t171] 40 (0, 0)) bk hb); have n2_ := Aside0.mk (below_step bl hb); clear BK167; clear BK173; clear HB; have BK167 := n0_; have BK173 := n1_; have HB := n2_; clear n0_ n1_ n2_; (try clear hb); (try clear hb2); (try clear hk); (try clear hi)) | ((with_reducible refine gate_dst (N := 5) rfl ?_); refine box_event ?hg (N := 5) ?hd (cs := #[.int .i64 0, .bool false, .string (⟨#[]⟩ : ByteArray), .string (⟨#[]⟩ : ByteArray)]) (t := 40) ?hr ?_; (case hd => rfl); (case hg => rfl); (case hr => first | (go_simp; done) | (go_simp; rfl)); intro gb179 hg w36 hbox hb; have n0_ := Aside0.mk (blk_below (g := gb167) (o := .cells #[.int .i64 t162, .bool t163, .string t164, .string t165] 40 (0, 0)) bk hb); have n1_ := Aside0.mk (blk_below (g := gb173) (o := .cells #[.int .i64 t168, .bool t169, .string t170, .string t171] 40 (0, 0)) bk hb); have n2_ := Aside0.mk (below_step bl hb); have n3_ := Aside0.mk (hbox); have n4_ := Aside0.mk ((by rw [hg]; exact (below_size bl) : w.heap.size ≤ gb179)); have n5_ := Aside0.mk ((by rw [hg]; exact (below_size bl) : w.heap.size ≤ gb179)); have n6_ := Aside0.mk ((by rw [hg]; exact Nat.ne_of_lt (blk_lt (g := gb167) (o := .cells #[.int .i64 t162, .bool t163, .string t164, .string t165] 40 (0, 0)) bk) : gb167 ≠ gb179)); have n7_ := Aside0.mk ((by rw [hg]; exact Nat.ne_of_gt (blk_lt (g := gb167) (o := .cells #[.int .i64 t162, .bool t163, .string t164, .string t165] 40 (0, 0)) bk) : gb179 ≠ gb167)); have n8_ := Aside0.mk ((by rw [hg]; exact Nat.ne_of_lt (blk_lt (g := gb173) (o := .cells #[.int .i64 t168, .bool t169, .string t170, .string t171] 40 (0, 0)) bk) : gb173 ≠ gb179)); have n9_ := Aside0.mk ((by rw [hg]; exact Nat.ne_of_gt (blk_lt (g := gb173) (o := .cells #[.int .i64 t168, .bool t169, .string t170, .string t171] 40 (0, 0)) bk) : gb179 ≠ gb173)); clear BK167; clear BK173; clear HB; have BK167 := n0_; have BK173 := n1_; have HB := n2_; have BK179 := n3_; have GW179 := n4_; have GE179 := n5_; have NB167_179 := n6_; have NB179_167 := n7_; have NB173_179 := n8_; have NB179_173 := n9_; clear n0_ n1_ n2_ n3_ n4_ n5_ n6_ n7_ n8_ n9_; clear hb hbox hg; have hnb37 := NB179_167.out; have hnc37 := NB167_179.out; have hnb38 := NB179_173.out; have hnc38 := NB173_179.out; have hcz39_0 : w36.cell? ⟨gb179, 0, none⟩ = some (.int .i64 0) := (blk_cell BK179.out 0).trans rfl; have hcz39_1 : w36.cell? ⟨gb179, 1, none⟩ = some (.bool false) := (blk_cell BK179.out 1).trans rfl; have hcz39_2 : w36.cell? ⟨gb179, 2, none⟩ = some (.string (⟨#[]⟩ : ByteArray)) := (blk_cell BK179.out 2).trans rfl; have hcz39_3 : w36.cell? ⟨gb179, 3, none⟩ = some (.string (⟨#[]⟩ : ByteArray)) := (blk_cell BK179.out 3).trans rfl; have hfz39_0 := blk_frozen BK179.out 0; have hfz39_1 := blk_frozen BK179.out 1; have hfz39_2 := blk_frozen BK179.out 2; have hfz39_3 := blk_frozen BK179.out 3; have hcz40_0 : w36.cell? ⟨gb167, 0, none⟩ = some (.int .i64 t162) := (blk_cell BK167.out 0).trans rfl; have hcz40_1 : w36.cell? ⟨gb167, 1, none⟩ = some (.bool t163) := (blk_cell BK167.out 1).trans rfl; have hcz40_2 : w36.cell? ⟨gb167, 2, none⟩ = some (.string t164) := (blk_cell BK167.out 2).trans rfl; have hcz40_3 : w36.cell? ⟨gb167, 3, none⟩ = some (.string t165) := (blk_cell BK167.out 3).trans rfl; have hfz40_0 := blk_frozen BK167.out 0; have hfz40_1 := blk_frozen BK167.out 1; have hfz40_2 := blk_frozen BK167.out 2; have hfz40_3 := blk_frozen BK167.out 3) | (go_at_call 35; (try (rename_i hK_; simp only [List.append] at hK_)); (with_reducible refine (dec_Print.calls _ _ _ _ _ _ _ A6.out).mono ?_); rintro e w41 ⟨rfl, hb⟩; have n0_ := Aside0.mk (blk_below (g := gb167) (o := .cells #[.int .i64 t162, .bool t163, .string t164, .string t165] 40 (0, 0)) bk hb); have n1_ := Aside0.mk (blk_below (g := gb173) (o := .cells #[.int .i64 t168, .bool t169, .string t170, .string t171] 40 (0, 0)) bk hb); have n2_ := Aside0.mk (blk_below (g := gb179) (o := .cells #[.int .i64 t174, .bool t175, .string t176, .string t177] 40 (0, 0)) bk hb); have n3_ := Aside0.mk (below_step bl hb); clear BK167; clear BK173; clear BK179; clear HB; have BK167 := n0_; have BK173 := n1_; have BK179 := n2_; have HB := n3_; clear n0_ n1_ n2_ n3_; (try clear hb); (try clear hb2); (try clear hk); (try clear hi); have hcz42_0 : w41.cell? ⟨gb179, 0, none⟩ = some (.int .i64 t174) := (blk_cell BK179.out 0).trans rfl; have hcz42_1 : w41.cell? ⟨gb179, 1, none⟩ = some (.bool t175) := (blk_cell BK179.out 1).trans rfl; have hcz42_2 : w41.cell? ⟨gb179, 2, none⟩ = some (.string t176) := (blk_cell BK179.out 2).trans rfl; have hcz42_3 : w41.cell? ⟨gb179, 3, none⟩ = some (.string t177) := (blk_cell BK179.out 3).trans rfl; have hfz42_0 := blk_frozen BK179.out 0; have hfz42_1 := blk_frozen BK179.out 1; have hfz42_2 := blk_frozen BK179.out 2; have hfz42_3 := blk_frozen BK179.out 3) | (go_at_call 35; (try (rename_i hK_; simp only [List.append] at hK_)); (with_reducible refine (dec_Print.calls _ _ _ _ _ _ _ A25.out).mono ?_); rintro e w43 ⟨rfl, hb⟩; have n0_ := Aside0.mk (blk_below (g := gb167) (o := .cells #[.int .i64 t162, .bool t163, .string t164, .string t165] 40 (0, 0)) bk hb); have n1_ := Aside0.mk (blk_below (g := gb173) (o := .cells #[.int .i64 t168, .bool t169, .string t170, .string t171] 40 (0, 0)) bk hb); have n2_ := Aside0.mk (blk_below (g := gb179) (o := .cells #[.int .i64 t174, .bool t175, .string t176, .string t177] 40 (0, 0)) bk hb); have n3_ := Aside0.mk (below_step bl hb); clear BK167; clear BK173; clear BK179; clear HB; have BK167 := n0_; have BK173 := n1_; have BK179 := n2_; have HB := n3_; clear n0_ n1_ n2_ n3_; (try clear hb); (try clear hb2); (try clear hk); (try clear hi)) | (go_at_call 33; (try (rename_i hK_; simp only [List.append] at hK_)); (with_reducible refine (dec_Good.calls _ _ _ _ _ _ _ A27.out).mono ?_); rintro e w44 ⟨rfl, hb⟩; have n0_ := Aside0.mk (blk_below (g := gb167) (o := .cells #[.int .i64 t162, .bool t163, .string t164, .string t165] 40 (0, 0)) bk hb); have n1_ := Aside0.mk (blk_below (g := gb173) (o := .cells #[.int .i64 t168, .bool t169, .string t170, .string t171] 40 (0, 0)) bk hb); have n2_ := Aside0.mk (blk_below (g := gb179) (o := .cells #[.int .i64 t174, .bool t175, .string t176, .string t177] 40 (0, 0)) bk hb); have n3_ := Aside0.mk (below_step bl hb); clear BK167; clear BK173; clear BK179; clear HB; have BK167 := n0_; have BK173 := n1_; have BK179 := n2_; have HB := n3_; clear n0_ n1_ n2_ n3_; (try clear hb); (try clear hb2); (try clear hk); (try clear hi)))
   go_ret
   exact ⟨by first | rfl | (simp [errW_none, errW_some] <;> rfl) | (simp [*, errW_none, errW_some] <;> rfl), bl⟩
/-! ### targumref4_IsDigit: function 60 -/
def targumref4_IsDigit.f (a0 : Int) : Option (Bool) := if a0 ≥ 48 then (some (decide (a0 ≤ 57))) else (some false)
set_option maxHeartbeats 8000000 in
set_option maxRecDepth 100000 in
theorem targumref4_IsDigit.calls (a0 : Int) (r : Bool) (w : World) (h : targumref4_IsDigit.f a0 = some r) :
  Calls Tryd.prog 60 #[.int .u8 a0] w fun e w' => e = .returned (.bool r) ∧ Drawn0 w w' := by
 have H : (if a0 ≥ 48 then (some (decide (a0 ≤ 57))) else (some false)) = some r := h
 clear h
 by_cases c2 : a0 ≥ 48
 ·rw [if_pos c2] at H
  have c2b0 : decide (48 ≤ a0) = true := decide_eq_true c2
  clear c2
  obtain rfl := Option.some.inj H
  go_enter Tryd.func60, Tryd.ntmps60
  go_wp2
  go_ret
  exact ⟨by first | rfl | (simp; done) | (simp [*]; done) | (simp [wrap64]; done), by repeat (first | exact Drawn0.refl _ | apply Drawn0.step)⟩
 ·rw [if_neg c2] at H
  have c2b0 : decide (48 ≤ a0) = false := decide_eq_false c2
  clear c2
  obtain rfl := Option.some.inj H
  go_enter Tryd.func60, Tryd.ntmps60
  go_wp2
  go_ret
  exact ⟨by first | rfl | (simp; done) | (simp [*]; done) | (simp [wrap64]; done), by repeat (first | exact Drawn0.refl _ | apply Drawn0.step)⟩

/-! ### targumref4_Digits: function 38 -/
def targumref4_Digits.l0 : Nat → ByteArray → Int → Option (Bool)
 | 0, _, _ => none
 | k + 1, x0, x3 => if x3 < (x0.size : Int) then (if 0 ≤ x3 then ((targumref4_IsDigit.f (bt x0 x3)).bind fun t183 => (if t183 = true then (targumref4_Digits.l0 k x0 (wrap64 (x3 + 1))) else (some false))) else (none)) else (some (decide ((x0.size : Int) > 0)))
def targumref4_Digits.f (k : Nat) (a0 : ByteArray) : Option (Bool) := targumref4_Digits.l0 k a0 0
theorem targumref4_Digits.mono_l : ∀ k, (∀ y0 y1, LeO (targumref4_Digits.l0 k y0 y1) (targumref4_Digits.l0 (k + 1) y0 y1))
 | 0 => fun _ _ r h => by simp [targumref4_Digits.l0] at h
 | k + 1 => by
  have ih0 := targumref4_Digits.mono_l k
  ·intro y0 y1
   unfold targumref4_Digits.l0
   repeat' first
   | (with_reducible exact ih0 _ _)
   | (with_reducible exact LeO.refl _)
   | (with_reducible exact LeO.none _)
   | (with_reducible refine LeO.ite ?_ ?_)
   | (with_reducible refine LeO.bind ?_ (fun _ => ?_))
   | exact ih0 _ _
   | exact LeO.none _
   | refine LeO.ite ?_ ?_
   | refine LeO.bind ?_ (fun _ => ?_)
theorem targumref4_Digits.mono : ∀ a0 k, LeO (targumref4_Digits.f k a0) (targumref4_Digits.f (k + 1) a0) := by
 intro a0 k
 have ih0 := targumref4_Digits.mono_l k
 unfold targumref4_Digits.f
 repeat' first
   | (with_reducible exact ih0 _ _)
   | (with_reducible exact LeO.refl _)
   | (with_reducible exact LeO.none _)
   | (with_reducible refine LeO.ite ?_ ?_)
   | (with_reducible refine LeO.bind ?_ (fun _ => ?_))
   | exact ih0 _ _
   | exact LeO.none _
   | refine LeO.ite ?_ ?_
   | refine LeO.bind ?_ (fun _ => ?_)
set_option maxHeartbeats 8000000 in
set_option maxRecDepth 100000 in
theorem targumref4_Digits.calls (k : Nat) (a0 : ByteArray) (r : Bool) (w : World) (h : targumref4_Digits.f k a0 = some r) :
  Calls Tryd.prog 38 #[.string a0] w fun e w' => e = .returned (.bool r) ∧ Drawn0 w w' := by
 have H : (targumref4_Digits.l0 k a0 0) = some r := h
 clear h
 have H' := Aside0.mk H
 clear H
 go_enter Tryd.func38, Tryd.ntmps38
 go_wp2
 go_loopg [3] k (fun kq v3 w' => ∃ (x3_1 : Int), v3 = .int .i64 x3_1 ∧ Aside0 (targumref4_Digits.l0 kq a0 x3_1 = some r) ∧ Aside0 (kq ≤ k) ∧ Drawn0 w w')
 case atStart => exact ⟨(0), (by first | rfl | (simp; done) | (simp [*]; done) | (simp [wrap64]; done)), H', ⟨Nat.le_refl _⟩, by repeat (first | exact Drawn0.refl _ | apply Drawn0.step)⟩
 case round =>
  clear H'
  obtain ⟨x3_1, rfl, HA, HK1, ⟨m1, rfl⟩⟩ := hrel
  cases gk with
  | zero => exact absurd HA.out (by simp [targumref4_Digits.l0])
  | succ k1 =>
   have H := HA.out
   clear HA
   simp only [targumref4_Digits.l0] at H
   by_cases c2 : x3_1 < (a0.size : Int)
   ·rw [if_pos c2] at H
    have c2b0 : decide (x3_1 < (a0.size : Int)) = true := decide_eq_true c2
    clear c2
    by_cases c3 : 0 ≤ x3_1
    ·rw [if_pos c3] at H
     have c3b0 : decide (0 ≤ x3_1) = true := decide_eq_true c3
     clear c3
     replace H := Option.bind_eq_some_iff.mp H
     obtain ⟨t183, A50, H⟩ := H
     replace H : (if t183 = true then (targumref4_Digits.l0 k1 a0 (wrap64 (x3_1 + 1))) else (some false)) = some r := H
     have A5 := Aside0.mk A50
     clear A50
     by_cases c6 : t183 = true
     ·subst c6
      have H1 : (targumref4_Digits.l0 k1 a0 (wrap64 (x3_1 + 1))) = some r := by rw [if_pos rfl] at H; exact H
      clear H
      have H := H1
      clear H1
      have H' := Aside0.mk H
      clear H
      have p4 : 0 ≤ (x3_1 : Int) := of_decide_eq_true (by first | (with_reducible assumption) | assumption)
      have q4 : x3_1 < (a0.size : Int) := of_decide_eq_true (by first | (with_reducible assumption) | assumption)
      have hx4 := bt_at a0 x3_1
      replace p4 := eq_true p4
      replace q4 := eq_true q4
      go_wp2_with (first | ((with_reducible refine gate_callee (f := 60) rfl ?_); refine goesL_ (some 13) rfl rfl Tryd.func60 (by kernel_rfl) rfl #[.int .u8 (bt a0 x3_1)] rfl (by (try simp only [List.map_toArray, List.map_cons, List.map_nil]); first | done | rfl | (simp only [List.length_drop, List.length_take]; rfl)) ?_; (with_reducible refine (targumref4_IsDigit.calls (bt a0 x3_1) true _ A5.out).mono ?_); rintro e w' ⟨rfl, ⟨nd, rfl⟩⟩; refine ⟨_, rfl, ?_⟩))
      go_roundg k1
      case measure => have := HK1.out; omega
      case rel => exact ⟨(wrap64 (x3_1 + 1)), (by first | rfl | (simp; done) | (simp [*]; done) | (simp [wrap64]; done)), H', ⟨by have := HK1.out; omega⟩, by repeat (first | exact Drawn0.refl _ | apply Drawn0.step)⟩
     ·replace c6 := Bool.eq_false_iff.mpr c6
      subst c6
      have H1 : (some false) = some r := by rw [if_neg (show ¬ (false = true) by decide)] at H; exact H
      clear H
      have H := H1
      clear H1
      obtain rfl := Option.some.inj H
      have p4 : 0 ≤ (x3_1 : Int) := of_decide_eq_true (by first | (with_reducible assumption) | assumption)
      have q4 : x3_1 < (a0.size : Int) := of_decide_eq_true (by first | (with_reducible assumption) | assumption)
      have hx4 := bt_at a0 x3_1
      replace p4 := eq_true p4
      replace q4 := eq_true q4
      go_wp2_with (first | ((with_reducible refine gate_callee (f := 60) rfl ?_); refine goesL_ (some 13) rfl rfl Tryd.func60 (by kernel_rfl) rfl #[.int .u8 (bt a0 x3_1)] rfl (by (try simp only [List.map_toArray, List.map_cons, List.map_nil]); first | done | rfl | (simp only [List.length_drop, List.length_take]; rfl)) ?_; (with_reducible refine (targumref4_IsDigit.calls (bt a0 x3_1) false _ A5.out).mono ?_); rintro e w' ⟨rfl, ⟨nd, rfl⟩⟩; refine ⟨_, rfl, ?_⟩))
      go_ret
      exact ⟨by first | rfl | (simp; done) | (simp [*]; done) | (simp [wrap64]; done), by repeat (first | exact Drawn0.refl _ | apply Drawn0.step)⟩
    ·rw [if_neg c3] at H
     exact absurd H (by simp)
   ·rw [if_neg c2] at H
    have c2b0 : decide (x3_1 < (a0.size : Int)) = false := decide_eq_false c2
    clear c2
    obtain rfl := Option.some.inj H
    go_wp2
    go_ret
    exact ⟨by first | rfl | (simp; done) | (simp [*]; done) | (simp [wrap64]; done), by repeat (first | exact Drawn0.refl _ | apply Drawn0.step)⟩

end Go.Proofs.YtddaggnomcoejaaDoor.PD
