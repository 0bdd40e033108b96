/- Written by this session's own program (xprint, made over the kit's print): Lean functions with the same answers as the Go functions, and the proofs of that. Not trusted: Lean checks it. -/
import Derived.Test.YtkijneohhilboaaDoorPIx0
import Derived.Test.YtkijneohhilboaaDoorPIx1
import Derived.Test.YtkijneohhilboaaDoorPIx2
import Derived.Test.YtkijneohhilboaaDoorXW
namespace Go.Proofs.YtkijneohhilboaaDoor.PI
open Go.Proofs.YtkijneohhilboaaDoor.XW Go.RowKit Go.Proofs.YtkijneohhilboaaDoorW.PrintWords Go.Proofs.YtkijneohhilboaaDoorW.PrintLast Go.Proofs.YtkijneohhilboaaDoorW.PrintMore
attribute [local go_sem] max2_int min2_int max_two min_two max_three min_three max_four min_four   -- for this text's walks alone
set_option linter.unusedVariables false
set_option linter.unusedSimpArgs false

/-! ### int11_Of: function 13 -/
def int11_Of.l0 : Nat → Bool → ByteArray → List ByteArray → Int → Int → Option (ByteArray × Bool)
 | 0, _, _, _, _, _ => none
 | k + 1, x5, x7, x48, x49, x50 => if x50 < x49 then (if 0 ≤ x50 then (if x50 < (x48.length : Int) then ((int11_small.f k (rdOf ByteArray.empty x48 x50)).bind fun t143 => ((big_MulAdd.f k x7 60 t143).bind fun t144 => (int11_Of.l0 k x5 t144 x48 x49 (wrap64 (x50 + 1))))) else (none)) else (none)) else ((big_Norm.f k x5 x7).bind fun t145 => (some (t145, true)))
def int11_Of.f (k : Nat) (a0 : ByteArray) : Option (ByteArray × Bool) := (int11_Form.f a0).bind fun t123 => ((int11_unsigned.f a0).bind fun bt124 => ((strings_ReplaceAll.f bt124.2 (⟨#[95]⟩ : ByteArray) (⟨#[]⟩ : ByteArray)).bind fun t126 => (if t123 = 0 then (some ((⟨#[]⟩ : ByteArray), false)) else (if t123 = 1 then (if 2 ≤ (t126.size : Int) then ((big_Base.f k (t126.extract 2 t126.size) 2).bind fun t127 => ((big_Norm.f k bt124.1 t127).bind fun t128 => (some (t128, true)))) else (none)) else (if t123 = 2 then (if 2 ≤ (t126.size : Int) then ((big_Base.f k (t126.extract 2 t126.size) 16).bind fun t129 => ((big_Norm.f k bt124.1 t129).bind fun t130 => (some (t130, true)))) else (none)) else (if t123 = 3 then (if 1 ≤ (t126.size : Int) then ((big_Base.f k (t126.extract 1 t126.size) 8).bind fun t131 => ((big_Norm.f k bt124.1 t131).bind fun t132 => (some (t132, true)))) else (none)) else (if t123 = 6 then ((strings_Split.f t126 (⟨#[58]⟩ : ByteArray)).bind fun t133 => (if 0 < (t133.length : Int) then ((big_Norm.f k false (rdOf ByteArray.empty t133 0)).bind fun t137 => (if 1 ≤ (t133.length : Int) then ((some (t133.drop 1 : List ByteArray)).bind fun y138 => (int11_Of.l0 k bt124.1 t137 y138 (y138.length : Int) 0)) else (none))) else (none))) else ((big_Norm.f k bt124.1 t126).bind fun t146 => (some (t146, true))))))))))
theorem int11_Of.mono_l : ∀ k, (∀ y0 y1 y2 y3 y4, LeO (int11_Of.l0 k y0 y1 y2 y3 y4) (int11_Of.l0 (k + 1) y0 y1 y2 y3 y4))
 | 0 => fun _ _ _ _ _ r h => by simp [int11_Of.l0] at h
 | k + 1 => by
  have ih0 := int11_Of.mono_l k
  ·intro y0 y1 y2 y3 y4
   unfold int11_Of.l0
   repeat' first
   | (with_reducible exact ih0 _ _ _ _ _)
   | (with_reducible exact big_Base.mono _ _ _)
   | (with_reducible exact big_MulAdd.mono _ _ _ _)
   | (with_reducible exact big_Norm.mono _ _ _)
   | (with_reducible exact int11_small.mono _ _)
   | (with_reducible exact LeO.refl _)
   | (with_reducible exact LeO.none _)
   | (with_reducible refine LeO.ite ?_ ?_)
   | (with_reducible refine LeO.bind ?_ (fun _ => ?_))
   | exact ih0 _ _ _ _ _
   | exact big_Base.mono _ _ _
   | exact big_MulAdd.mono _ _ _ _
   | exact big_Norm.mono _ _ _
   | exact int11_small.mono _ _
   | exact LeO.none _
   | refine LeO.ite ?_ ?_
   | refine LeO.bind ?_ (fun _ => ?_)
theorem int11_Of.mono : ∀ a0 k, LeO (int11_Of.f k a0) (int11_Of.f (k + 1) a0) := by
 intro a0 k
 have ih0 := int11_Of.mono_l k
 unfold int11_Of.f
 repeat' first
   | (with_reducible exact ih0 _ _ _ _ _)
   | (with_reducible exact big_Base.mono _ _ _)
   | (with_reducible exact big_MulAdd.mono _ _ _ _)
   | (with_reducible exact big_Norm.mono _ _ _)
   | (with_reducible exact int11_small.mono _ _)
   | (with_reducible exact LeO.refl _)
   | (with_reducible exact LeO.none _)
   | (with_reducible refine LeO.ite ?_ ?_)
   | (with_reducible refine LeO.bind ?_ (fun _ => ?_))
   | exact ih0 _ _ _ _ _
   | exact big_Base.mono _ _ _
   | exact big_MulAdd.mono _ _ _ _
   | exact big_Norm.mono _ _ _
   | exact int11_small.mono _ _
   | exact LeO.none _
   | refine LeO.ite ?_ ?_
   | refine LeO.bind ?_ (fun _ => ?_)
set_option maxHeartbeats 8000000 in
set_option maxRecDepth 100000 in
theorem int11_Of.calls (k : Nat) (a0 : ByteArray) (r1 : ByteArray) (r2 : Bool) (w : World) (hG : Go.Proofs.YtkijneohhilboaaDoor.PIT.Tabs w) (h : int11_Of.f k a0 = some (r1, r2)) :
  Calls Tryd.prog 13 #[.string a0] w fun e w' => e = .returned (.tuple #[.string r1, .bool r2]) ∧ Below w.heap.size w w' := by
 have HG := Aside0.mk hG
 clear hG
 have HB := Aside0.mk (Below.refl w.heap.size w)
 have H : ((int11_Form.f a0).bind fun t123 => ((int11_unsigned.f a0).bind fun bt124 => ((strings_ReplaceAll.f bt124.2 (⟨#[95]⟩ : ByteArray) (⟨#[]⟩ : ByteArray)).bind fun t126 => (if t123 = 0 then (some ((⟨#[]⟩ : ByteArray), false)) else (if t123 = 1 then (if 2 ≤ (t126.size : Int) then ((big_Base.f k (t126.extract 2 t126.size) 2).bind fun t127 => ((big_Norm.f k bt124.1 t127).bind fun t128 => (some (t128, true)))) else (none)) else (if t123 = 2 then (if 2 ≤ (t126.size : Int) then ((big_Base.f k (t126.extract 2 t126.size) 16).bind fun t129 => ((big_Norm.f k bt124.1 t129).bind fun t130 => (some (t130, true)))) else (none)) else (if t123 = 3 then (if 1 ≤ (t126.size : Int) then ((big_Base.f k (t126.extract 1 t126.size) 8).bind fun t131 => ((big_Norm.f k bt124.1 t131).bind fun t132 => (some (t132, true)))) else (none)) else (if t123 = 6 then ((strings_Split.f t126 (⟨#[58]⟩ : ByteArray)).bind fun t133 => (if 0 < (t133.length : Int) then ((big_Norm.f k false (rdOf ByteArray.empty t133 0)).bind fun t137 => (if 1 ≤ (t133.length : Int) then ((some (t133.drop 1 : List ByteArray)).bind fun y138 => (int11_Of.l0 k bt124.1 t137 y138 (y138.length : Int) 0)) else (none))) else (none))) else ((big_Norm.f k bt124.1 t126).bind fun t146 => (some (t146, true))))))))))) = some (r1, r2) := h
 clear h
 replace H := Option.bind_eq_some_iff.mp H
 obtain ⟨t123, A20, H⟩ := H
 replace H : ((int11_unsigned.f a0).bind fun bt124 => ((strings_ReplaceAll.f bt124.2 (⟨#[95]⟩ : ByteArray) (⟨#[]⟩ : ByteArray)).bind fun t126 => (if t123 = 0 then (some ((⟨#[]⟩ : ByteArray), false)) else (if t123 = 1 then (if 2 ≤ (t126.size : Int) then ((big_Base.f k (t126.extract 2 t126.size) 2).bind fun t127 => ((big_Norm.f k bt124.1 t127).bind fun t128 => (some (t128, true)))) else (none)) else (if t123 = 2 then (if 2 ≤ (t126.size : Int) then ((big_Base.f k (t126.extract 2 t126.size) 16).bind fun t129 => ((big_Norm.f k bt124.1 t129).bind fun t130 => (some (t130, true)))) else (none)) else (if t123 = 3 then (if 1 ≤ (t126.size : Int) then ((big_Base.f k (t126.extract 1 t126.size) 8).bind fun t131 => ((big_Norm.f k bt124.1 t131).bind fun t132 => (some (t132, true)))) else (none)) else (if t123 = 6 then ((strings_Split.f t126 (⟨#[58]⟩ : ByteArray)).bind fun t133 => (if 0 < (t133.length : Int) then ((big_Norm.f k false (rdOf ByteArray.empty t133 0)).bind fun t137 => (if 1 ≤ (t133.length : Int) then ((some (t133.drop 1 : List ByteArray)).bind fun y138 => (int11_Of.l0 k bt124.1 t137 y138 (y138.length : Int) 0)) else (none))) else (none))) else ((big_Norm.f k bt124.1 t126).bind fun t146 => (some (t146, true)))))))))) = some (r1, r2) := H
 have A2 := Aside0.mk A20
 clear A20
 replace H := Option.bind_eq_some_iff.mp H
 obtain ⟨⟨t124, t125⟩, A30, H⟩ := H
 replace H : ((strings_ReplaceAll.f t125 (⟨#[95]⟩ : ByteArray) (⟨#[]⟩ : ByteArray)).bind fun t126 => (if t123 = 0 then (some ((⟨#[]⟩ : ByteArray), false)) else (if t123 = 1 then (if 2 ≤ (t126.size : Int) then ((big_Base.f k (t126.extract 2 t126.size) 2).bind fun t127 => ((big_Norm.f k t124 t127).bind fun t128 => (some (t128, true)))) else (none)) else (if t123 = 2 then (if 2 ≤ (t126.size : Int) then ((big_Base.f k (t126.extract 2 t126.size) 16).bind fun t129 => ((big_Norm.f k t124 t129).bind fun t130 => (some (t130, true)))) else (none)) else (if t123 = 3 then (if 1 ≤ (t126.size : Int) then ((big_Base.f k (t126.extract 1 t126.size) 8).bind fun t131 => ((big_Norm.f k t124 t131).bind fun t132 => (some (t132, true)))) else (none)) else (if t123 = 6 then ((strings_Split.f t126 (⟨#[58]⟩ : ByteArray)).bind fun t133 => (if 0 < (t133.length : Int) then ((big_Norm.f k false (rdOf ByteArray.empty t133 0)).bind fun t137 => (if 1 ≤ (t133.length : Int) then ((some (t133.drop 1 : List ByteArray)).bind fun y138 => (int11_Of.l0 k t124 t137 y138 (y138.length : Int) 0)) else (none))) else (none))) else ((big_Norm.f k t124 t126).bind fun t146 => (some (t146, true))))))))) = some (r1, r2) := H
 have A3 := Aside0.mk A30
 clear A30
 replace H := Option.bind_eq_some_iff.mp H
 obtain ⟨t126, A40, H⟩ := H
 replace H : (if t123 = 0 then (some ((⟨#[]⟩ : ByteArray), false)) else (if t123 = 1 then (if 2 ≤ (t126.size : Int) then ((big_Base.f k (t126.extract 2 t126.size) 2).bind fun t127 => ((big_Norm.f k t124 t127).bind fun t128 => (some (t128, true)))) else (none)) else (if t123 = 2 then (if 2 ≤ (t126.size : Int) then ((big_Base.f k (t126.extract 2 t126.size) 16).bind fun t129 => ((big_Norm.f k t124 t129).bind fun t130 => (some (t130, true)))) else (none)) else (if t123 = 3 then (if 1 ≤ (t126.size : Int) then ((big_Base.f k (t126.extract 1 t126.size) 8).bind fun t131 => ((big_Norm.f k t124 t131).bind fun t132 => (some (t132, true)))) else (none)) else (if t123 = 6 then ((strings_Split.f t126 (⟨#[58]⟩ : ByteArray)).bind fun t133 => (if 0 < (t133.length : Int) then ((big_Norm.f k false (rdOf ByteArray.empty t133 0)).bind fun t137 => (if 1 ≤ (t133.length : Int) then ((some (t133.drop 1 : List ByteArray)).bind fun y138 => (int11_Of.l0 k t124 t137 y138 (y138.length : Int) 0)) else (none))) else (none))) else ((big_Norm.f k t124 t126).bind fun t146 => (some (t146, true)))))))) = some (r1, r2) := H
 have A4 := Aside0.mk A40
 clear A40
 by_cases c5 : t123 = 0
 ·rw [if_pos c5] at H
  have c5b0 : (t123 == 0) = true := beq_iff_eq.mpr c5
  have c5b1 : (t123 != 0) = false := bne_eq_false_iff_eq.mpr c5
  clear c5
  simp only [Option.some.injEq, Prod.mk.injEq] at H
  obtain ⟨rfl, rfl⟩ := H
  go_enter Tryd.func13, Tryd.ntmps13
  go_wp2_with (first | ((with_reducible refine gate_callee (f := 14) rfl ?_); refine goesL_ (some 12) rfl rfl Tryd.func14 (by kernel_rfl) rfl #[.string a0] rfl (by (try simp only [List.map_toArray, List.map_cons, List.map_nil]); first | done | rfl | (simp only [List.length_drop, List.length_take]; rfl)) ?_; (with_reducible refine (int11_Form.calls a0 t123 _ A2.out).mono ?_); rintro e w6 ⟨rfl, hb⟩; refine ⟨_, rfl, ?_⟩; have n0_ := Aside0.mk (below_step bl hb); clear HB; have HB := n0_; clear n0_; (try clear hb); (try clear hb2); (try clear hk); (try clear hi)) | ((with_reducible refine gate_callee (f := 23) rfl ?_); refine goesL_ (some 15) rfl rfl Tryd.func23 (by kernel_rfl) rfl #[.string a0] rfl (by (try simp only [List.map_toArray, List.map_cons, List.map_nil]); first | done | rfl | (simp only [List.length_drop, List.length_take]; rfl)) ?_; (with_reducible refine (int11_unsigned.calls a0 t124 t125 _ A3.out).mono ?_); rintro e w' ⟨rfl, ⟨nd, rfl⟩⟩; refine ⟨_, rfl, ?_⟩) | ((with_reducible refine gate_callee (f := 24) rfl ?_); refine goesL_ (some 19) rfl rfl Tryd.func24 (by kernel_rfl) rfl #[.string t125, .string (⟨#[95]⟩ : ByteArray), .string (⟨#[]⟩ : ByteArray)] rfl (by (try simp only [List.map_toArray, List.map_cons, List.map_nil]); first | done | rfl | (simp only [List.length_drop, List.length_take]; rfl)) ?_; (with_reducible refine (strings_ReplaceAll.calls t125 (⟨#[95]⟩ : ByteArray) (⟨#[]⟩ : ByteArray) t126 _ ?side1 A4.out).mono ?_); (case side1 => exact Go.Proofs.YtkijneohhilboaaDoor.PIT.Tabs_below HG.out bl); rintro e w7 ⟨rfl, hb⟩; refine ⟨_, rfl, ?_⟩; have n0_ := Aside0.mk (below_step bl hb); clear HB; have HB := n0_; clear n0_; (try clear hb); (try clear hb2); (try clear hk); (try clear hi)))
  go_ret2
  exact ⟨by first | rfl | (simp [errW_none, errW_some] <;> rfl) | (simp [*, errW_none, errW_some] <;> rfl), bl⟩
 ·rw [if_neg c5] at H
  have c5b0 : (t123 == 0) = false := beq_eq_false_iff_ne.mpr c5
  have c5b1 : (t123 != 0) = true := bne_iff_ne.mpr c5
  by_cases c8 : t123 = 1
  ·rw [if_pos c8] at H
   have c8b0 : (t123 == 1) = true := beq_iff_eq.mpr c8
   have c8b1 : (t123 != 1) = false := bne_eq_false_iff_eq.mpr c8
   clear c8
   by_cases c9 : 2 ≤ (t126.size : Int)
   ·rw [if_pos c9] at H
    have c9b0 := eq_true c9
    have c9b1 : decide (2 ≤ (t126.size : Int)) = true := decide_eq_true c9
    clear c9
    replace H := Option.bind_eq_some_iff.mp H
    obtain ⟨t127, A100, H⟩ := H
    replace H : ((big_Norm.f k t124 t127).bind fun t128 => (some (t128, true))) = some (r1, r2) := H
    have A10 := Aside0.mk A100
    clear A100
    replace H := Option.bind_eq_some_iff.mp H
    obtain ⟨t128, A110, H⟩ := H
    replace H : (some (t128, true)) = some (r1, r2) := H
    have A11 := Aside0.mk A110
    clear A110
    simp only [Option.some.injEq, Prod.mk.injEq] at H
    obtain ⟨rfl, rfl⟩ := H
    go_enter Tryd.func13, Tryd.ntmps13
    go_wp2_with (first | ((with_reducible refine gate_callee (f := 14) rfl ?_); refine goesL_ (some 12) rfl rfl Tryd.func14 (by kernel_rfl) rfl #[.string a0] rfl (by (try simp only [List.map_toArray, List.map_cons, List.map_nil]); first | done | rfl | (simp only [List.length_drop, List.length_take]; rfl)) ?_; (with_reducible refine (int11_Form.calls a0 t123 _ A2.out).mono ?_); rintro e w12 ⟨rfl, hb⟩; refine ⟨_, rfl, ?_⟩; have n0_ := Aside0.mk (below_step bl hb); clear HB; have HB := n0_; clear n0_; (try clear hb); (try clear hb2); (try clear hk); (try clear hi)) | ((with_reducible refine gate_callee (f := 23) rfl ?_); refine goesL_ (some 15) rfl rfl Tryd.func23 (by kernel_rfl) rfl #[.string a0] rfl (by (try simp only [List.map_toArray, List.map_cons, List.map_nil]); first | done | rfl | (simp only [List.length_drop, List.length_take]; rfl)) ?_; (with_reducible refine (int11_unsigned.calls a0 t124 t125 _ A3.out).mono ?_); rintro e w' ⟨rfl, ⟨nd, rfl⟩⟩; refine ⟨_, rfl, ?_⟩) | ((with_reducible refine gate_callee (f := 24) rfl ?_); refine goesL_ (some 19) rfl rfl Tryd.func24 (by kernel_rfl) rfl #[.string t125, .string (⟨#[95]⟩ : ByteArray), .string (⟨#[]⟩ : ByteArray)] rfl (by (try simp only [List.map_toArray, List.map_cons, List.map_nil]); first | done | rfl | (simp only [List.length_drop, List.length_take]; rfl)) ?_; (with_reducible refine (strings_ReplaceAll.calls t125 (⟨#[95]⟩ : ByteArray) (⟨#[]⟩ : ByteArray) t126 _ ?side1 A4.out).mono ?_); (case side1 => exact Go.Proofs.YtkijneohhilboaaDoor.PIT.Tabs_below HG.out bl); rintro e w13 ⟨rfl, hb⟩; refine ⟨_, rfl, ?_⟩; have n0_ := Aside0.mk (below_step bl hb); clear HB; have HB := n0_; clear n0_; (try clear hb); (try clear hb2); (try clear hk); (try clear hi)) | ((with_reducible refine gate_callee (f := 25) rfl ?_); refine goesL_ (some 28) rfl rfl Tryd.func25 (by kernel_rfl) rfl #[.string (t126.extract 2 t126.size), .int .i64 2] rfl (by (try simp only [List.map_toArray, List.map_cons, List.map_nil]); first | done | rfl | (simp only [List.length_drop, List.length_take]; rfl)) ?_; (with_reducible refine (big_Base.calls k (t126.extract 2 t126.size) 2 t127 _ ?side1 A10.out).mono ?_); (case side1 => exact Go.Proofs.YtkijneohhilboaaDoor.PIT.Tabs_below HG.out bl); rintro e w14 ⟨rfl, hb⟩; refine ⟨_, rfl, ?_⟩; have n0_ := Aside0.mk (below_step bl hb); clear HB; have HB := n0_; clear n0_; (try clear hb); (try clear hb2); (try clear hk); (try clear hi)) | ((with_reducible refine gate_callee (f := 27) rfl ?_); refine goesL_ (some 61) rfl rfl Tryd.func27 (by kernel_rfl) rfl #[.bool t124, .string t127] rfl (by (try simp only [List.map_toArray, List.map_cons, List.map_nil]); first | done | rfl | (simp only [List.length_drop, List.length_take]; rfl)) ?_; (with_reducible refine (big_Norm.calls k t124 t127 t128 _ A11.out).mono ?_); rintro e w15 ⟨rfl, hb⟩; refine ⟨_, rfl, ?_⟩; have n0_ := Aside0.mk (below_step bl hb); clear HB; have HB := n0_; clear n0_; (try clear hb); (try clear hb2); (try clear hk); (try clear hi)))
    go_ret2
    exact ⟨by first | rfl | (simp [errW_none, errW_some] <;> rfl) | (simp [*, errW_none, errW_some] <;> rfl), bl⟩
   ·rw [if_neg c9] at H
    exact absurd H (by simp)
  ·rw [if_neg c8] at H
   have c8b0 : (t123 == 1) = false := beq_eq_false_iff_ne.mpr c8
   have c8b1 : (t123 != 1) = true := bne_iff_ne.mpr c8
   by_cases c16 : t123 = 2
   ·rw [if_pos c16] at H
    have c16b0 : (t123 == 2) = true := beq_iff_eq.mpr c16
    have c16b1 : (t123 != 2) = false := bne_eq_false_iff_eq.mpr c16
    clear c16
    by_cases c17 : 2 ≤ (t126.size : Int)
    ·rw [if_pos c17] at H
     have c17b0 := eq_true c17
     have c17b1 : decide (2 ≤ (t126.size : Int)) = true := decide_eq_true c17
     clear c17
     replace H := Option.bind_eq_some_iff.mp H
     obtain ⟨t129, A180, H⟩ := H
     replace H : ((big_Norm.f k t124 t129).bind fun t130 => (some (t130, true))) = some (r1, r2) := H
     have A18 := Aside0.mk A180
     clear A180
     replace H := Option.bind_eq_some_iff.mp H
     obtain ⟨t130, A190, H⟩ := H
     replace H : (some (t130, true)) = some (r1, r2) := H
     have A19 := Aside0.mk A190
     clear A190
     simp only [Option.some.injEq, Prod.mk.injEq] at H
     obtain ⟨rfl, rfl⟩ := H
     go_enter Tryd.func13, Tryd.ntmps13
     go_wp2_with (first | ((with_reducible refine gate_callee (f := 14) rfl ?_); refine goesL_ (some 12) rfl rfl Tryd.func14 (by kernel_rfl) rfl #[.string a0] rfl (by (try simp only [List.map_toArray, List.map_cons, List.map_nil]); first | done | rfl | (simp only [List.length_drop, List.length_take]; rfl)) ?_; (with_reducible refine (int11_Form.calls a0 t123 _ A2.out).mono ?_); rintro e w20 ⟨rfl, hb⟩; refine ⟨_, rfl, ?_⟩; have n0_ := Aside0.mk (below_step bl hb); clear HB; have HB := n0_; clear n0_; (try clear hb); (try clear hb2); (try clear hk); (try clear hi)) | ((with_reducible refine gate_callee (f := 23) rfl ?_); refine goesL_ (some 15) rfl rfl Tryd.func23 (by kernel_rfl) rfl #[.string a0] rfl (by (try simp only [List.map_toArray, List.map_cons, List.map_nil]); first | done | rfl | (simp only [List.length_drop, List.length_take]; rfl)) ?_; (with_reducible refine (int11_unsigned.calls a0 t124 t125 _ A3.out).mono ?_); rintro e w' ⟨rfl, ⟨nd, rfl⟩⟩; refine ⟨_, rfl, ?_⟩) | ((with_reducible refine gate_callee (f := 24) rfl ?_); refine goesL_ (some 19) rfl rfl Tryd.func24 (by kernel_rfl) rfl #[.string t125, .string (⟨#[95]⟩ : ByteArray), .string (⟨#[]⟩ : ByteArray)] rfl (by (try simp only [List.map_toArray, List.map_cons, List.map_nil]); first | done | rfl | (simp only [List.length_drop, List.length_take]; rfl)) ?_; (with_reducible refine (strings_ReplaceAll.calls t125 (⟨#[95]⟩ : ByteArray) (⟨#[]⟩ : ByteArray) t126 _ ?side1 A4.out).mono ?_); (case side1 => exact Go.Proofs.YtkijneohhilboaaDoor.PIT.Tabs_below HG.out bl); rintro e w21 ⟨rfl, hb⟩; refine ⟨_, rfl, ?_⟩; have n0_ := Aside0.mk (below_step bl hb); clear HB; have HB := n0_; clear n0_; (try clear hb); (try clear hb2); (try clear hk); (try clear hi)) | ((with_reducible refine gate_callee (f := 25) rfl ?_); refine goesL_ (some 33) rfl rfl Tryd.func25 (by kernel_rfl) rfl #[.string (t126.extract 2 t126.size), .int .i64 16] rfl (by (try simp only [List.map_toArray, List.map_cons, List.map_nil]); first | done | rfl | (simp only [List.length_drop, List.length_take]; rfl)) ?_; (with_reducible refine (big_Base.calls k (t126.extract 2 t126.size) 16 t129 _ ?side1 A18.out).mono ?_); (case side1 => exact Go.Proofs.YtkijneohhilboaaDoor.PIT.Tabs_below HG.out bl); rintro e w22 ⟨rfl, hb⟩; refine ⟨_, rfl, ?_⟩; have n0_ := Aside0.mk (below_step bl hb); clear HB; have HB := n0_; clear n0_; (try clear hb); (try clear hb2); (try clear hk); (try clear hi)) | ((with_reducible refine gate_callee (f := 27) rfl ?_); refine goesL_ (some 61) rfl rfl Tryd.func27 (by kernel_rfl) rfl #[.bool t124, .string t129] rfl (by (try simp only [List.map_toArray, List.map_cons, List.map_nil]); first | done | rfl | (simp only [List.length_drop, List.length_take]; rfl)) ?_; (with_reducible refine (big_Norm.calls k t124 t129 t130 _ A19.out).mono ?_); rintro e w23 ⟨rfl, hb⟩; refine ⟨_, rfl, ?_⟩; have n0_ := Aside0.mk (below_step bl hb); clear HB; have HB := n0_; clear n0_; (try clear hb); (try clear hb2); (try clear hk); (try clear hi)))
     go_ret2
     exact ⟨by first | rfl | (simp [errW_none, errW_some] <;> rfl) | (simp [*, errW_none, errW_some] <;> rfl), bl⟩
    ·rw [if_neg c17] at H
     exact absurd H (by simp)
   ·rw [if_neg c16] at H
    have c16b0 : (t123 == 2) = false := beq_eq_false_iff_ne.mpr c16
    have c16b1 : (t123 != 2) = true := bne_iff_ne.mpr c16
    by_cases c24 : t123 = 3
    ·rw [if_pos c24] at H
     have c24b0 : (t123 == 3) = true := beq_iff_eq.mpr c24
     have c24b1 : (t123 != 3) = false := bne_eq_false_iff_eq.mpr c24
     clear c24
     by_cases c25 : 1 ≤ (t126.size : Int)
     ·rw [if_pos c25] at H
      have c25b0 := eq_true c25
      have c25b1 : decide (1 ≤ (t126.size : Int)) = true := decide_eq_true c25
      clear c25
      replace H := Option.bind_eq_some_iff.mp H
      obtain ⟨t131, A260, H⟩ := H
      replace H : ((big_Norm.f k t124 t131).bind fun t132 => (some (t132, true))) = some (r1, r2) := H
      have A26 := Aside0.mk A260
      clear A260
      replace H := Option.bind_eq_some_iff.mp H
      obtain ⟨t132, A270, H⟩ := H
      replace H : (some (t132, true)) = some (r1, r2) := H
      have A27 := Aside0.mk A270
      clear A270
      simp only [Option.some.injEq, Prod.mk.injEq] at H
      obtain ⟨rfl, rfl⟩ := H
      go_enter Tryd.func13, Tryd.ntmps13
      go_wp2_with (first | ((with_reducible refine gate_callee (f := 14) rfl ?_); refine goesL_ (some 12) rfl rfl Tryd.func14 (by kernel_rfl) rfl #[.string a0] rfl (by (try simp only [List.map_toArray, List.map_cons, List.map_nil]); first | done | rfl | (simp only [List.length_drop, List.length_take]; rfl)) ?_; (with_reducible refine (int11_Form.calls a0 t123 _ A2.out).mono ?_); rintro e w28 ⟨rfl, hb⟩; refine ⟨_, rfl, ?_⟩; have n0_ := Aside0.mk (below_step bl hb); clear HB; have HB := n0_; clear n0_; (try clear hb); (try clear hb2); (try clear hk); (try clear hi)) | ((with_reducible refine gate_callee (f := 23) rfl ?_); refine goesL_ (some 15) rfl rfl Tryd.func23 (by kernel_rfl) rfl #[.string a0] rfl (by (try simp only [List.map_toArray, List.map_cons, List.map_nil]); first | done | rfl | (simp only [List.length_drop, List.length_take]; rfl)) ?_; (with_reducible refine (int11_unsigned.calls a0 t124 t125 _ A3.out).mono ?_); rintro e w' ⟨rfl, ⟨nd, rfl⟩⟩; refine ⟨_, rfl, ?_⟩) | ((with_reducible refine gate_callee (f := 24) rfl ?_); refine goesL_ (some 19) rfl rfl Tryd.func24 (by kernel_rfl) rfl #[.string t125, .string (⟨#[95]⟩ : ByteArray), .string (⟨#[]⟩ : ByteArray)] rfl (by (try simp only [List.map_toArray, List.map_cons, List.map_nil]); first | done | rfl | (simp only [List.length_drop, List.length_take]; rfl)) ?_; (with_reducible refine (strings_ReplaceAll.calls t125 (⟨#[95]⟩ : ByteArray) (⟨#[]⟩ : ByteArray) t126 _ ?side1 A4.out).mono ?_); (case side1 => exact Go.Proofs.YtkijneohhilboaaDoor.PIT.Tabs_below HG.out bl); rintro e w29 ⟨rfl, hb⟩; refine ⟨_, rfl, ?_⟩; have n0_ := Aside0.mk (below_step bl hb); clear HB; have HB := n0_; clear n0_; (try clear hb); (try clear hb2); (try clear hk); (try clear hi)) | ((with_reducible refine gate_callee (f := 25) rfl ?_); refine goesL_ (some 38) rfl rfl Tryd.func25 (by kernel_rfl) rfl #[.string (t126.extract 1 t126.size), .int .i64 8] rfl (by (try simp only [List.map_toArray, List.map_cons, List.map_nil]); first | done | rfl | (simp only [List.length_drop, List.length_take]; rfl)) ?_; (with_reducible refine (big_Base.calls k (t126.extract 1 t126.size) 8 t131 _ ?side1 A26.out).mono ?_); (case side1 => exact Go.Proofs.YtkijneohhilboaaDoor.PIT.Tabs_below HG.out bl); rintro e w30 ⟨rfl, hb⟩; refine ⟨_, rfl, ?_⟩; have n0_ := Aside0.mk (below_step bl hb); clear HB; have HB := n0_; clear n0_; (try clear hb); (try clear hb2); (try clear hk); (try clear hi)) | ((with_reducible refine gate_callee (f := 27) rfl ?_); refine goesL_ (some 61) rfl rfl Tryd.func27 (by kernel_rfl) rfl #[.bool t124, .string t131] rfl (by (try simp only [List.map_toArray, List.map_cons, List.map_nil]); first | done | rfl | (simp only [List.length_drop, List.length_take]; rfl)) ?_; (with_reducible refine (big_Norm.calls k t124 t131 t132 _ A27.out).mono ?_); rintro e w31 ⟨rfl, hb⟩; refine ⟨_, rfl, ?_⟩; have n0_ := Aside0.mk (below_step bl hb); clear HB; have HB := n0_; clear n0_; (try clear hb); (try clear hb2); (try clear hk); (try clear hi)))
      go_ret2
      exact ⟨by first | rfl | (simp [errW_none, errW_some] <;> rfl) | (simp [*, errW_none, errW_some] <;> rfl), bl⟩
     ·rw [if_neg c25] at H
      exact absurd H (by simp)
    ·rw [if_neg c24] at H
     have c24b0 : (t123 == 3) = false := beq_eq_false_iff_ne.mpr c24
     have c24b1 : (t123 != 3) = true := bne_iff_ne.mpr c24
     by_cases c32 : t123 = 6
     ·rw [if_pos c32] at H
      have c32b0 : (t123 == 6) = true := beq_iff_eq.mpr c32
      have c32b1 : (t123 != 6) = false := bne_eq_false_iff_eq.mpr c32
      clear c32
      replace H := Option.bind_eq_some_iff.mp H
      obtain ⟨t133, A330, H⟩ := H
      replace H : (if 0 < (t133.length : Int) then ((big_Norm.f k false (rdOf ByteArray.empty t133 0)).bind fun t137 => (if 1 ≤ (t133.length : Int) then ((some (t133.drop 1 : List ByteArray)).bind fun y138 => (int11_Of.l0 k t124 t137 y138 (y138.length : Int) 0)) else (none))) else (none)) = some (r1, r2) := H
      have A33 := Aside0.mk A330
      clear A330
      by_cases c34 : 0 < (t133.length : Int)
      ·rw [if_pos c34] at H
       have c34b0 : decide (0 < (t133.length : Int)) = true := decide_eq_true c34
       have c34b1 : decide (0 < t133.length) = true := decide_eq_true (by omega)
       clear c34
       replace H := Option.bind_eq_some_iff.mp H
       obtain ⟨t137, A350, H⟩ := H
       replace H : (if 1 ≤ (t133.length : Int) then ((some (t133.drop 1 : List ByteArray)).bind fun y138 => (int11_Of.l0 k t124 t137 y138 (y138.length : Int) 0)) else (none)) = some (r1, r2) := H
       have A35 := Aside0.mk A350
       clear A350
       by_cases c36 : 1 ≤ (t133.length : Int)
       ·rw [if_pos c36] at H
        have c36b0 := eq_true c36
        have c36b1 : decide (1 ≤ (t133.length : Int)) = true := decide_eq_true c36
        clear c36
        obtain ⟨y138, hy138⟩ : ∃ y_ : List ByteArray, y_ = (t133.drop 1) := ⟨_, rfl⟩
        replace H : (int11_Of.l0 k t124 t137 y138 (y138.length : Int) 0) = some (r1, r2) := by first | (rw [hy138]; with_reducible exact H) | (have H2_ := (Option.bind_some _ _).symm.trans H; rw [hy138]; with_reducible exact H2_) | (have H2_ := (Option.bind_some _ _).symm.trans H; with_reducible exact H2_) | with_reducible exact H | (rw [hy138]; exact H) | exact H
        have Ny138 := Aside0.mk hy138
        clear hy138
        have H' := Aside0.mk H
        clear H
        go_enter Tryd.func13, Tryd.ntmps13
        go_wp2_with (first | ((with_reducible refine gate_callee (f := 14) rfl ?_); refine goesL_ (some 12) rfl rfl Tryd.func14 (by kernel_rfl) rfl #[.string a0] rfl (by (try simp only [List.map_toArray, List.map_cons, List.map_nil]); first | done | rfl | (simp only [List.length_drop, List.length_take]; rfl)) ?_; (with_reducible refine (int11_Form.calls a0 t123 _ A2.out).mono ?_); rintro e w37 ⟨rfl, hb⟩; refine ⟨_, rfl, ?_⟩; have n0_ := Aside0.mk (below_step bl hb); clear HB; have HB := n0_; clear n0_; (try clear hb); (try clear hb2); (try clear hk); (try clear hi)) | ((with_reducible refine gate_callee (f := 23) rfl ?_); refine goesL_ (some 15) rfl rfl Tryd.func23 (by kernel_rfl) rfl #[.string a0] rfl (by (try simp only [List.map_toArray, List.map_cons, List.map_nil]); first | done | rfl | (simp only [List.length_drop, List.length_take]; rfl)) ?_; (with_reducible refine (int11_unsigned.calls a0 t124 t125 _ A3.out).mono ?_); rintro e w' ⟨rfl, ⟨nd, rfl⟩⟩; refine ⟨_, rfl, ?_⟩) | ((with_reducible refine gate_callee (f := 24) rfl ?_); refine goesL_ (some 19) rfl rfl Tryd.func24 (by kernel_rfl) rfl #[.string t125, .string (⟨#[95]⟩ : ByteArray), .string (⟨#[]⟩ : ByteArray)] rfl (by (try simp only [List.map_toArray, List.map_cons, List.map_nil]); first | done | rfl | (simp only [List.length_drop, List.length_take]; rfl)) ?_; (with_reducible refine (strings_ReplaceAll.calls t125 (⟨#[95]⟩ : ByteArray) (⟨#[]⟩ : ByteArray) t126 _ ?side1 A4.out).mono ?_); (case side1 => exact Go.Proofs.YtkijneohhilboaaDoor.PIT.Tabs_below HG.out bl); rintro e w38 ⟨rfl, hb⟩; refine ⟨_, rfl, ?_⟩; have n0_ := Aside0.mk (below_step bl hb); clear HB; have HB := n0_; clear n0_; (try clear hb); (try clear hb2); (try clear hk); (try clear hi)) | ((with_reducible refine gate_callee (f := 26) rfl ?_); refine goesL_ (some 42) rfl rfl Tryd.func26 (by kernel_rfl) rfl #[.string t126, .string (⟨#[58]⟩ : ByteArray)] rfl (by (try simp only [List.map_toArray, List.map_cons, List.map_nil]); first | done | rfl | (simp only [List.length_drop, List.length_take]; rfl)) ?_; (with_reducible refine (strings_Split.calls t126 (⟨#[58]⟩ : ByteArray) t133 _ ?side1 A33.out).mono ?_); (case side1 => exact Go.Proofs.YtkijneohhilboaaDoor.PIT.Tabs_below HG.out bl); rintro e w39 ⟨v134, rfl, ho0, hb⟩; refine ⟨_, rfl, ?_⟩; have n0_ := Aside0.mk (Kd.R_lower ho0 (below_size bl)); have n1_ := Aside0.mk (below_step bl hb); clear HB; have HO135 := n0_; have HB := n1_; clear n0_ n1_; (try clear hb); (try clear hb2); (try clear hk); (try clear hi); (try clear ho0); obtain ⟨Ao40, co40, eo40⟩ := Kd.R_slice HO135.out; subst eo40; have p136 : 0 ≤ (0 : Int) := (by omega); have q136 : 0 < (t133.length : Int) := of_decide_eq_true (by first | (with_reducible assumption) | assumption); obtain ⟨ad136, e136, hx136_0⟩ := Kd.at_string (Kd.R_reads' HO135.out).2.2 0 p136 q136; cases e136; have qi136 : (0 < t133.length) = True := eq_true (by omega); (try rw [show ((0 : Int)).toNat = 0 from rfl] at hx136_0); (try rw [Addr.add_zero'] at hx136_0); replace p136 := eq_true p136; replace q136 := eq_true q136) | ((with_reducible refine gate_callee (f := 27) rfl ?_); refine goesL_ (some 46) rfl rfl Tryd.func27 (by kernel_rfl) rfl #[.bool false, .string (rdOf ByteArray.empty t133 0)] rfl (by (try simp only [List.map_toArray, List.map_cons, List.map_nil]); first | done | rfl | (simp only [List.length_drop, List.length_take]; rfl)) ?_; (with_reducible refine (big_Norm.calls k false (rdOf ByteArray.empty t133 0) t137 _ A35.out).mono ?_); rintro e w41 ⟨rfl, hb⟩; refine ⟨_, rfl, ?_⟩; have n0_ := Aside0.mk (Kd.R_below (by (with_reducible repeat (first | apply Kd.R_alloc | apply Kd.R_drewN | apply Kd.R_drew)); exact HO135.out) hb); have n1_ := Aside0.mk (below_step bl hb); clear HO135; clear HB; have HO135 := n0_; have HB := n1_; clear n0_ n1_; (try clear hb); (try clear hb2); (try clear hk); (try clear hi); have q42 : (1 : Int) ≤ ((t133.length : Int) : Int) := of_decide_eq_true (by first | (with_reducible assumption) | assumption); obtain ⟨i042, hi042, _, hsz42, _⟩ := info_parts info9; have hroom42 : t133.length ≤ co40 := (Kd.R_reads' HO135.out).2.1; have hC42 : Kd.C Kd.string _ (some ad136) t133.length t133 := (Kd.R_reads' HO135.out).2.2; have hcut42 := cut_from (P := Tryd.prog) 34 9 .i64 Tryd.underlying34 hi042 1 hsz42 (some ad136) t133.length co40 1 (by omega) q42; have hr42 := Kd.C_drop (m := (1 : Int).toNat) (c := co40) hC42 (by omega) hroom42; obtain ⟨A42, hA42⟩ : ∃ A1, A1 = (if co40 = (1 : Int).toNat then (some ad136) else ((some ad136) : Option Addr).map (·.add ((1 : Int).toNat * 1))) := ⟨_, rfl⟩; obtain ⟨c42, hc42⟩ : ∃ c1, c1 = co40 - (1 : Int).toNat := ⟨_, rfl⟩; have hy42 : y138.length = t133.length - (1 : Int).toNat := (by rw [Ny138.out, List.length_drop] <;> omega); rw [show (t133).drop (1 : Int).toNat = y138 from Ny138.out.symm] at hr42; replace hr42 : Kd.C Kd.string _ A42 y138.length y138 := (by rw [hA42]; exact hr42); rw [← hy42, ← hA42, ← hc42] at hcut42; have HR141 := Aside0.mk hr42; have HC141 := Aside0.mk (show y138.length ≤ c42 from by rw [hy42, hc42]; exact Nat.sub_le_sub_right hroom42 _); clear hr42 hC42 hroom42 hi042 hsz42 hc42; have KY42 := Aside0.mk hy42; have KA42 := Aside0.mk hA42; clear hy42 hA42; have KL42 := Aside0.mk (show 1 ≤ t133.length from by omega); replace q42 := eq_true q42))
        go_loopg [7, 50] k (fun kq v7 v50 w' => ∃ (x7_1 : ByteArray) (x50_1 : Int), v7 = .string x7_1 ∧ v50 = .int .i64 x50_1 ∧ Aside0 (int11_Of.l0 kq t124 x7_1 y138 (y138.length : Int) x50_1 = some (r1, r2)) ∧ Aside0 (kq ≤ k) ∧ Aside0 (Kd.C Kd.string w' A42 y138.length y138) ∧ Aside0 (Below w.heap.size w w'))
        case atStart => exact ⟨(t137), (0), (by first | rfl | (simp; done) | (simp [*]; done) | (simp [wrap64]; done)), (by first | rfl | (simp; done) | (simp [*]; done) | (simp [wrap64]; done)), H', ⟨Nat.le_refl _⟩, ⟨by repeat (first | (with_reducible exact HR141.out) | (with_reducible refine Kd.C_alloc ?_ _) | (with_reducible refine Kd.C_drewN ?_ _) | (with_reducible refine Kd.C_drew ?_) | exact HR141.out)⟩, ⟨bl⟩⟩
        case round =>
         clear H'
         try clear c1; try clear p1; try clear q1; try clear hx1; try clear qi1; try clear c2; try clear p2; try clear c3; try clear c4; try clear q4; try clear c5; try clear c5b0; try clear c5b1; try clear c8; try clear c8b0; try clear c8b1; try clear c9; try clear c9b0; try clear c9b1; try clear c13; try clear p13; try clear q13; try clear hx13; try clear qi13; try clear c14; try clear c16; try clear c16b0; try clear c16b1; try clear c17; try clear c17b0; try clear c17b1; try clear c23; try clear c24; try clear c24b0; try clear c24b1; try clear c25; try clear c25b0; try clear c25b1; try clear c26; try clear c27; try clear c32; try clear c32b0; try clear c32b1; try clear c34; try clear c34b0; try clear c34b1; try clear c36; try clear c36b0; try clear c36b1; try clear c42; try clear q42; try clear hx136_0; try clear p136; try clear q136; try clear q42
         obtain ⟨x7_1, x50_1, rfl, rfl, HA, HK1, HR141, HB⟩ := hrel
         cases gk with
         | zero => exact absurd HA.out (by simp [int11_Of.l0])
         | succ k1 =>
          have H := HA.out
          clear HA
          simp only [int11_Of.l0] at H
          by_cases c43 : x50_1 < (y138.length : Int)
          ·rw [if_pos c43] at H
           have c43b0 : decide (x50_1 < (y138.length : Int)) = true := decide_eq_true c43
           clear c43
           by_cases c44 : 0 ≤ x50_1
           ·rw [if_pos c44] at H
            have c44b0 : decide (0 ≤ x50_1) = true := decide_eq_true c44
            clear c44
            by_cases c45 : x50_1 < (y138.length : Int)
            ·rw [if_pos c45] at H
             have c45b0 : decide (x50_1 < (y138.length : Int)) = true := decide_eq_true c45
             clear c45
             replace H := Option.bind_eq_some_iff.mp H
             obtain ⟨t143, A460, H⟩ := H
             replace H : ((big_MulAdd.f k1 x7_1 60 t143).bind fun t144 => (int11_Of.l0 k1 t124 t144 y138 (y138.length : Int) (wrap64 (x50_1 + 1)))) = some (r1, r2) := H
             have A46 := Aside0.mk A460
             clear A460
             replace H := Option.bind_eq_some_iff.mp H
             obtain ⟨t144, A470, H⟩ := H
             replace H : (int11_Of.l0 k1 t124 t144 y138 (y138.length : Int) (wrap64 (x50_1 + 1))) = some (r1, r2) := H
             have A47 := Aside0.mk A470
             clear A470
             have H' := Aside0.mk H
             clear H
             have p142 : 0 ≤ (x50_1 : Int) := of_decide_eq_true (by first | (with_reducible assumption) | assumption)
             have q142 : x50_1 < (y138.length : Int) := of_decide_eq_true (by first | (with_reducible assumption) | assumption)
             obtain ⟨ad142, e142, hx142_0⟩ := Kd.at_string HR141.out x50_1 p142 q142
             cases e142
             (try replace hx142_0 := (HB.out.cell (World.block_lt_of_cell? w _ hx142_0)).trans hx142_0)
             replace p142 := eq_true p142
             replace q142 := eq_true q142
             go_wp2_with (first | ((with_reducible refine gate_callee (f := 29) rfl ?_); refine goesL_ (some 56) rfl rfl Tryd.func29 (by kernel_rfl) rfl #[.string (rdOf ByteArray.empty y138 x50_1)] rfl (by (try simp only [List.map_toArray, List.map_cons, List.map_nil]); first | done | rfl | (simp only [List.length_drop, List.length_take]; rfl)) ?_; (with_reducible refine (int11_small.calls k1 (rdOf ByteArray.empty y138 x50_1) t143 _ A46.out).mono ?_); rintro e w' ⟨rfl, ⟨nd, rfl⟩⟩; refine ⟨_, rfl, ?_⟩) | ((with_reducible refine gate_callee (f := 28) rfl ?_); refine goesL_ (some 57) rfl rfl Tryd.func28 (by kernel_rfl) rfl #[.string x7_1, .int .i64 60, .int .i64 t143] rfl (by (try simp only [List.map_toArray, List.map_cons, List.map_nil]); first | done | rfl | (simp only [List.length_drop, List.length_take]; rfl)) ?_; (with_reducible refine (big_MulAdd.calls k1 x7_1 60 t143 t144 _ ?side1 A47.out).mono ?_); (case side1 => exact Go.Proofs.YtkijneohhilboaaDoor.PIT.Tabs_below HG.out bl); rintro e w48 ⟨rfl, hb⟩; refine ⟨_, rfl, ?_⟩; have n0_ := Aside0.mk (Kd.C_below (by repeat (first | (with_reducible exact HR141.out) | (with_reducible refine Kd.C_alloc ?_ _) | (with_reducible refine Kd.C_drewN ?_ _) | (with_reducible refine Kd.C_drew ?_) | exact HR141.out)) hb); have n1_ := Aside0.mk (below_step bl hb); clear HR141; clear HB; have HR141 := n0_; have HB := n1_; clear n0_ n1_; (try clear hb); (try clear hb2); (try clear hk); (try clear hi)))
             go_roundg k1
             case measure => have := HK1.out; omega
             case rel => exact ⟨(t144), (wrap64 (x50_1 + 1)), (by first | rfl | (simp; done) | (simp [*]; done) | (simp [wrap64]; done)), (by first | rfl | (simp; done) | (simp [*]; done) | (simp [wrap64]; done)), H', ⟨by have := HK1.out; omega⟩, ⟨by repeat (first | (with_reducible exact HR141.out) | (with_reducible refine Kd.C_alloc ?_ _) | (with_reducible refine Kd.C_drewN ?_ _) | (with_reducible refine Kd.C_drew ?_) | exact HR141.out)⟩, ⟨bl⟩⟩
            ·rw [if_neg c45] at H
             exact absurd H (by simp)
           ·rw [if_neg c44] at H
            exact absurd H (by simp)
          ·rw [if_neg c43] at H
           have c43b0 : decide (x50_1 < (y138.length : Int)) = false := decide_eq_false c43
           clear c43
           replace H := Option.bind_eq_some_iff.mp H
           obtain ⟨t145, A490, H⟩ := H
           replace H : (some (t145, true)) = some (r1, r2) := H
           have A49 := Aside0.mk A490
           clear A490
           simp only [Option.some.injEq, Prod.mk.injEq] at H
           obtain ⟨rfl, rfl⟩ := H
           go_wp2_with (first | ((with_reducible refine gate_callee (f := 27) rfl ?_); refine goesL_ (some 61) rfl rfl Tryd.func27 (by kernel_rfl) rfl #[.bool t124, .string x7_1] rfl (by (try simp only [List.map_toArray, List.map_cons, List.map_nil]); first | done | rfl | (simp only [List.length_drop, List.length_take]; rfl)) ?_; (with_reducible refine (big_Norm.calls k1 t124 x7_1 t145 _ A49.out).mono ?_); rintro e w50 ⟨rfl, hb⟩; refine ⟨_, rfl, ?_⟩; have n0_ := Aside0.mk (Kd.C_below (by repeat (first | (with_reducible exact HR141.out) | (with_reducible refine Kd.C_alloc ?_ _) | (with_reducible refine Kd.C_drewN ?_ _) | (with_reducible refine Kd.C_drew ?_) | exact HR141.out)) hb); have n1_ := Aside0.mk (below_step bl hb); clear HR141; clear HB; have HR141 := n0_; have HB := n1_; clear n0_ n1_; (try clear hb); (try clear hb2); (try clear hk); (try clear hi)))
           go_ret2
           exact ⟨by first | rfl | (simp [errW_none, errW_some] <;> rfl) | (simp [*, errW_none, errW_some] <;> rfl), bl⟩
       ·rw [if_neg c36] at H
        exact absurd H (by simp)
      ·rw [if_neg c34] at H
       exact absurd H (by simp)
     ·rw [if_neg c32] at H
      have c32b0 : (t123 == 6) = false := beq_eq_false_iff_ne.mpr c32
      have c32b1 : (t123 != 6) = true := bne_iff_ne.mpr c32
      replace H := Option.bind_eq_some_iff.mp H
      obtain ⟨t146, A510, H⟩ := H
      replace H : (some (t146, true)) = some (r1, r2) := H
      have A51 := Aside0.mk A510
      clear A510
      simp only [Option.some.injEq, Prod.mk.injEq] at H
      obtain ⟨rfl, rfl⟩ := H
      go_enter Tryd.func13, Tryd.ntmps13
      go_wp2_with (first | ((with_reducible refine gate_callee (f := 14) rfl ?_); refine goesL_ (some 12) rfl rfl Tryd.func14 (by kernel_rfl) rfl #[.string a0] rfl (by (try simp only [List.map_toArray, List.map_cons, List.map_nil]); first | done | rfl | (simp only [List.length_drop, List.length_take]; rfl)) ?_; (with_reducible refine (int11_Form.calls a0 t123 _ A2.out).mono ?_); rintro e w52 ⟨rfl, hb⟩; refine ⟨_, rfl, ?_⟩; have n0_ := Aside0.mk (below_step bl hb); clear HB; have HB := n0_; clear n0_; (try clear hb); (try clear hb2); (try clear hk); (try clear hi)) | ((with_reducible refine gate_callee (f := 23) rfl ?_); refine goesL_ (some 15) rfl rfl Tryd.func23 (by kernel_rfl) rfl #[.string a0] rfl (by (try simp only [List.map_toArray, List.map_cons, List.map_nil]); first | done | rfl | (simp only [List.length_drop, List.length_take]; rfl)) ?_; (with_reducible refine (int11_unsigned.calls a0 t124 t125 _ A3.out).mono ?_); rintro e w' ⟨rfl, ⟨nd, rfl⟩⟩; refine ⟨_, rfl, ?_⟩) | ((with_reducible refine gate_callee (f := 24) rfl ?_); refine goesL_ (some 19) rfl rfl Tryd.func24 (by kernel_rfl) rfl #[.string t125, .string (⟨#[95]⟩ : ByteArray), .string (⟨#[]⟩ : ByteArray)] rfl (by (try simp only [List.map_toArray, List.map_cons, List.map_nil]); first | done | rfl | (simp only [List.length_drop, List.length_take]; rfl)) ?_; (with_reducible refine (strings_ReplaceAll.calls t125 (⟨#[95]⟩ : ByteArray) (⟨#[]⟩ : ByteArray) t126 _ ?side1 A4.out).mono ?_); (case side1 => exact Go.Proofs.YtkijneohhilboaaDoor.PIT.Tabs_below HG.out bl); rintro e w53 ⟨rfl, hb⟩; refine ⟨_, rfl, ?_⟩; have n0_ := Aside0.mk (below_step bl hb); clear HB; have HB := n0_; clear n0_; (try clear hb); (try clear hb2); (try clear hk); (try clear hi)) | ((with_reducible refine gate_callee (f := 27) rfl ?_); refine goesL_ (some 61) rfl rfl Tryd.func27 (by kernel_rfl) rfl #[.bool t124, .string t126] rfl (by (try simp only [List.map_toArray, List.map_cons, List.map_nil]); first | done | rfl | (simp only [List.length_drop, List.length_take]; rfl)) ?_; (with_reducible refine (big_Norm.calls k t124 t126 t146 _ A51.out).mono ?_); rintro e w54 ⟨rfl, hb⟩; refine ⟨_, rfl, ?_⟩; have n0_ := Aside0.mk (below_step bl hb); clear HB; have HB := n0_; clear n0_; (try clear hb); (try clear hb2); (try clear hk); (try clear hi)))
      go_ret2
      exact ⟨by first | rfl | (simp [errW_none, errW_some] <;> rfl) | (simp [*, errW_none, errW_some] <;> rfl), bl⟩

/-! ### targumlaw6_known: function 10 -/
def targumlaw6_known.f (k : Nat)  : Option (Bool) := (int11_Of.f k (⟨#[48, 49, 48]⟩ : ByteArray)).bind fun bt147 => ((int11_Of.f k (⟨#[49, 58, 51, 48]⟩ : ByteArray)).bind fun bt149 => ((int11_Of.f k (⟨#[48, 111, 55]⟩ : ByteArray)).bind fun bt151 => ((int11_Of.f k (⟨#[45, 49, 95, 48]⟩ : ByteArray)).bind fun bt153 => (if bt147.2 = true then (if bt147.1.toList = ([56] : List UInt8) then (if bt149.2 = true then (if bt149.1.toList = ([57, 48] : List UInt8) then (if bt151.2 = true then (some false) else (if bt153.2 = true then (if bt153.1.toList = ([45, 49, 48] : List UInt8) then ((int11_Form.f (⟨#[48, 120, 95, 102]⟩ : ByteArray)).bind fun t155 => (if t155 = 2 then ((int11_Form.f (⟨#[48, 98, 95]⟩ : ByteArray)).bind fun t156 => (if t156 = 0 then ((int11_Form.f (⟨#[45, 48]⟩ : ByteArray)).bind fun t157 => (if t157 = 4 then ((int11_Form.f (⟨#[49, 58, 54, 48]⟩ : ByteArray)).bind fun t158 => (if t158 = 0 then ((int11_Form.f (⟨#[48, 48]⟩ : ByteArray)).bind fun t159 => (some (t159 == 3))) else (some false))) else (some false))) else (some false))) else (some false))) else (some false)) else (some false))) else (some false)) else (some false)) else (some false)) else (some false)))))
theorem targumlaw6_known.mono : ∀ k, LeO (targumlaw6_known.f k ) (targumlaw6_known.f (k + 1) ) := by
 intro  k
 unfold targumlaw6_known.f
 repeat' first
   | (with_reducible exact int11_Of.mono _ _)
   | (with_reducible exact LeO.refl _)
   | (with_reducible exact LeO.none _)
   | (with_reducible refine LeO.ite ?_ ?_)
   | (with_reducible refine LeO.bind ?_ (fun _ => ?_))
   | exact int11_Of.mono _ _
   | exact LeO.none _
   | refine LeO.ite ?_ ?_
   | refine LeO.bind ?_ (fun _ => ?_)
set_option maxHeartbeats 8000000 in
set_option maxRecDepth 100000 in
theorem targumlaw6_known.calls (k : Nat)  (r : Bool) (w : World) (hG : Go.Proofs.YtkijneohhilboaaDoor.PIT.Tabs w) (h : targumlaw6_known.f k  = some r) :
  Calls Tryd.prog 10 #[] w fun e w' => e = .returned (.bool r) ∧ Below w.heap.size w w' := by
 have HG := Aside0.mk hG
 clear hG
 have HB := Aside0.mk (Below.refl w.heap.size w)
 have H : ((int11_Of.f k (⟨#[48, 49, 48]⟩ : ByteArray)).bind fun bt147 => ((int11_Of.f k (⟨#[49, 58, 51, 48]⟩ : ByteArray)).bind fun bt149 => ((int11_Of.f k (⟨#[48, 111, 55]⟩ : ByteArray)).bind fun bt151 => ((int11_Of.f k (⟨#[45, 49, 95, 48]⟩ : ByteArray)).bind fun bt153 => (if bt147.2 = true then (if bt147.1.toList = ([56] : List UInt8) then (if bt149.2 = true then (if bt149.1.toList = ([57, 48] : List UInt8) then (if bt151.2 = true then (some false) else (if bt153.2 = true then (if bt153.1.toList = ([45, 49, 48] : List UInt8) then ((int11_Form.f (⟨#[48, 120, 95, 102]⟩ : ByteArray)).bind fun t155 => (if t155 = 2 then ((int11_Form.f (⟨#[48, 98, 95]⟩ : ByteArray)).bind fun t156 => (if t156 = 0 then ((int11_Form.f (⟨#[45, 48]⟩ : ByteArray)).bind fun t157 => (if t157 = 4 then ((int11_Form.f (⟨#[49, 58, 54, 48]⟩ : ByteArray)).bind fun t158 => (if t158 = 0 then ((int11_Form.f (⟨#[48, 48]⟩ : ByteArray)).bind fun t159 => (some (t159 == 3))) else (some false))) else (some false))) else (some false))) else (some false))) else (some false)) else (some false))) else (some false)) else (some false)) else (some false)) else (some false)))))) = some r := h
 clear h
 replace H := Option.bind_eq_some_iff.mp H
 obtain ⟨⟨t147, t148⟩, A10, H⟩ := H
 replace H : ((int11_Of.f k (⟨#[49, 58, 51, 48]⟩ : ByteArray)).bind fun bt149 => ((int11_Of.f k (⟨#[48, 111, 55]⟩ : ByteArray)).bind fun bt151 => ((int11_Of.f k (⟨#[45, 49, 95, 48]⟩ : ByteArray)).bind fun bt153 => (if t148 = true then (if t147.toList = ([56] : List UInt8) then (if bt149.2 = true then (if bt149.1.toList = ([57, 48] : List UInt8) then (if bt151.2 = true then (some false) else (if bt153.2 = true then (if bt153.1.toList = ([45, 49, 48] : List UInt8) then ((int11_Form.f (⟨#[48, 120, 95, 102]⟩ : ByteArray)).bind fun t155 => (if t155 = 2 then ((int11_Form.f (⟨#[48, 98, 95]⟩ : ByteArray)).bind fun t156 => (if t156 = 0 then ((int11_Form.f (⟨#[45, 48]⟩ : ByteArray)).bind fun t157 => (if t157 = 4 then ((int11_Form.f (⟨#[49, 58, 54, 48]⟩ : ByteArray)).bind fun t158 => (if t158 = 0 then ((int11_Form.f (⟨#[48, 48]⟩ : ByteArray)).bind fun t159 => (some (t159 == 3))) else (some false))) else (some false))) else (some false))) else (some false))) else (some false)) else (some false))) else (some false)) else (some false)) else (some false)) else (some false))))) = some r := H
 have A1 := Aside0.mk A10
 clear A10
 replace H := Option.bind_eq_some_iff.mp H
 obtain ⟨⟨t149, t150⟩, A20, H⟩ := H
 replace H : ((int11_Of.f k (⟨#[48, 111, 55]⟩ : ByteArray)).bind fun bt151 => ((int11_Of.f k (⟨#[45, 49, 95, 48]⟩ : ByteArray)).bind fun bt153 => (if t148 = true then (if t147.toList = ([56] : List UInt8) then (if t150 = true then (if t149.toList = ([57, 48] : List UInt8) then (if bt151.2 = true then (some false) else (if bt153.2 = true then (if bt153.1.toList = ([45, 49, 48] : List UInt8) then ((int11_Form.f (⟨#[48, 120, 95, 102]⟩ : ByteArray)).bind fun t155 => (if t155 = 2 then ((int11_Form.f (⟨#[48, 98, 95]⟩ : ByteArray)).bind fun t156 => (if t156 = 0 then ((int11_Form.f (⟨#[45, 48]⟩ : ByteArray)).bind fun t157 => (if t157 = 4 then ((int11_Form.f (⟨#[49, 58, 54, 48]⟩ : ByteArray)).bind fun t158 => (if t158 = 0 then ((int11_Form.f (⟨#[48, 48]⟩ : ByteArray)).bind fun t159 => (some (t159 == 3))) else (some false))) else (some false))) else (some false))) else (some false))) else (some false)) else (some false))) else (some false)) else (some false)) else (some false)) else (some false)))) = some r := H
 have A2 := Aside0.mk A20
 clear A20
 replace H := Option.bind_eq_some_iff.mp H
 obtain ⟨⟨t151, t152⟩, A30, H⟩ := H
 replace H : ((int11_Of.f k (⟨#[45, 49, 95, 48]⟩ : ByteArray)).bind fun bt153 => (if t148 = true then (if t147.toList = ([56] : List UInt8) then (if t150 = true then (if t149.toList = ([57, 48] : List UInt8) then (if t152 = true then (some false) else (if bt153.2 = true then (if bt153.1.toList = ([45, 49, 48] : List UInt8) then ((int11_Form.f (⟨#[48, 120, 95, 102]⟩ : ByteArray)).bind fun t155 => (if t155 = 2 then ((int11_Form.f (⟨#[48, 98, 95]⟩ : ByteArray)).bind fun t156 => (if t156 = 0 then ((int11_Form.f (⟨#[45, 48]⟩ : ByteArray)).bind fun t157 => (if t157 = 4 then ((int11_Form.f (⟨#[49, 58, 54, 48]⟩ : ByteArray)).bind fun t158 => (if t158 = 0 then ((int11_Form.f (⟨#[48, 48]⟩ : ByteArray)).bind fun t159 => (some (t159 == 3))) else (some false))) else (some false))) else (some false))) else (some false))) else (some false)) else (some false))) else (some false)) else (some false)) else (some false)) else (some false))) = some r := H
 have A3 := Aside0.mk A30
 clear A30
 replace H := Option.bind_eq_some_iff.mp H
 obtain ⟨⟨t153, t154⟩, A40, H⟩ := H
 replace H : (if t148 = true then (if t147.toList = ([56] : List UInt8) then (if t150 = true then (if t149.toList = ([57, 48] : List UInt8) then (if t152 = true then (some false) else (if t154 = true then (if t153.toList = ([45, 49, 48] : List UInt8) then ((int11_Form.f (⟨#[48, 120, 95, 102]⟩ : ByteArray)).bind fun t155 => (if t155 = 2 then ((int11_Form.f (⟨#[48, 98, 95]⟩ : ByteArray)).bind fun t156 => (if t156 = 0 then ((int11_Form.f (⟨#[45, 48]⟩ : ByteArray)).bind fun t157 => (if t157 = 4 then ((int11_Form.f (⟨#[49, 58, 54, 48]⟩ : ByteArray)).bind fun t158 => (if t158 = 0 then ((int11_Form.f (⟨#[48, 48]⟩ : ByteArray)).bind fun t159 => (some (t159 == 3))) else (some false))) else (some false))) else (some false))) else (some false))) else (some false)) else (some false))) else (some false)) else (some false)) else (some false)) else (some false)) = some r := H
 have A4 := Aside0.mk A40
 clear A40
 refine Classical.byCases (p := (t148 = true)) (fun c5 => ?x3) (fun c5 => ?y3)
 case' x3 =>
  subst c5
  have H1 : (if t147.toList = ([56] : List UInt8) then (if t150 = true then (if t149.toList = ([57, 48] : List UInt8) then (if t152 = true then (some false) else (if t154 = true then (if t153.toList = ([45, 49, 48] : List UInt8) then ((int11_Form.f (⟨#[48, 120, 95, 102]⟩ : ByteArray)).bind fun t155 => (if t155 = 2 then ((int11_Form.f (⟨#[48, 98, 95]⟩ : ByteArray)).bind fun t156 => (if t156 = 0 then ((int11_Form.f (⟨#[45, 48]⟩ : ByteArray)).bind fun t157 => (if t157 = 4 then ((int11_Form.f (⟨#[49, 58, 54, 48]⟩ : ByteArray)).bind fun t158 => (if t158 = 0 then ((int11_Form.f (⟨#[48, 48]⟩ : ByteArray)).bind fun t159 => (some (t159 == 3))) else (some false))) else (some false))) else (some false))) else (some false))) else (some false)) else (some false))) else (some false)) else (some false)) else (some false)) = some r := by rw [if_pos rfl] at H; exact H
  clear H
  have H := H1
  clear H1
  refine Classical.byCases (p := (t147.toList = ([56] : List UInt8))) (fun c6 => ?x4) (fun c6 => ?y4)
  case' x4 =>
   rw [if_pos c6] at H
   have c6b0 : (t147.toList == ([56] : List UInt8)) = true := beq_iff_eq.mpr c6
   have c6b1 : (t147.toList != ([56] : List UInt8)) = false := bne_eq_false_iff_eq.mpr c6
   clear c6
   refine Classical.byCases (p := (t150 = true)) (fun c7 => ?x5) (fun c7 => ?y5)
   case' x5 =>
    subst c7
    have H1 : (if t149.toList = ([57, 48] : List UInt8) then (if t152 = true then (some false) else (if t154 = true then (if t153.toList = ([45, 49, 48] : List UInt8) then ((int11_Form.f (⟨#[48, 120, 95, 102]⟩ : ByteArray)).bind fun t155 => (if t155 = 2 then ((int11_Form.f (⟨#[48, 98, 95]⟩ : ByteArray)).bind fun t156 => (if t156 = 0 then ((int11_Form.f (⟨#[45, 48]⟩ : ByteArray)).bind fun t157 => (if t157 = 4 then ((int11_Form.f (⟨#[49, 58, 54, 48]⟩ : ByteArray)).bind fun t158 => (if t158 = 0 then ((int11_Form.f (⟨#[48, 48]⟩ : ByteArray)).bind fun t159 => (some (t159 == 3))) else (some false))) else (some false))) else (some false))) else (some false))) else (some false)) else (some false))) else (some false)) = some r := by rw [if_pos rfl] at H; exact H
    clear H
    have H := H1
    clear H1
    refine Classical.byCases (p := (t149.toList = ([57, 48] : List UInt8))) (fun c8 => ?x6) (fun c8 => ?y6)
    case' x6 =>
     rw [if_pos c8] at H
     have c8b0 : (t149.toList == ([57, 48] : List UInt8)) = true := beq_iff_eq.mpr c8
     have c8b1 : (t149.toList != ([57, 48] : List UInt8)) = false := bne_eq_false_iff_eq.mpr c8
     clear c8
     refine Classical.byCases (p := (t152 = true)) (fun c9 => ?x7) (fun c9 => ?y7)
     case' x7 =>
      subst c9
      have H1 : (some false) = some r := by rw [if_pos rfl] at H; exact H
      clear H
      have H := H1
      clear H1
      obtain rfl := Option.some.inj H
      go_enter Tryd.func10, Tryd.ntmps10
      skip
     case' y7 =>
      replace c9 := Bool.eq_false_iff.mpr c9
      subst c9
      have H1 : (if t154 = true then (if t153.toList = ([45, 49, 48] : List UInt8) then ((int11_Form.f (⟨#[48, 120, 95, 102]⟩ : ByteArray)).bind fun t155 => (if t155 = 2 then ((int11_Form.f (⟨#[48, 98, 95]⟩ : ByteArray)).bind fun t156 => (if t156 = 0 then ((int11_Form.f (⟨#[45, 48]⟩ : ByteArray)).bind fun t157 => (if t157 = 4 then ((int11_Form.f (⟨#[49, 58, 54, 48]⟩ : ByteArray)).bind fun t158 => (if t158 = 0 then ((int11_Form.f (⟨#[48, 48]⟩ : ByteArray)).bind fun t159 => (some (t159 == 3))) else (some false))) else (some false))) else (some false))) else (some false))) else (some false)) else (some false)) = some r := by rw [if_neg (show ¬ (false = true) by decide)] at H; exact H
      clear H
      have H := H1
      clear H1
      refine Classical.byCases (p := (t154 = true)) (fun c14 => ?x8) (fun c14 => ?y8)
      case' x8 =>
       subst c14
       have H1 : (if t153.toList = ([45, 49, 48] : List UInt8) then ((int11_Form.f (⟨#[48, 120, 95, 102]⟩ : ByteArray)).bind fun t155 => (if t155 = 2 then ((int11_Form.f (⟨#[48, 98, 95]⟩ : ByteArray)).bind fun t156 => (if t156 = 0 then ((int11_Form.f (⟨#[45, 48]⟩ : ByteArray)).bind fun t157 => (if t157 = 4 then ((int11_Form.f (⟨#[49, 58, 54, 48]⟩ : ByteArray)).bind fun t158 => (if t158 = 0 then ((int11_Form.f (⟨#[48, 48]⟩ : ByteArray)).bind fun t159 => (some (t159 == 3))) else (some false))) else (some false))) else (some false))) else (some false))) else (some false)) = some r := by rw [if_pos rfl] at H; exact H
       clear H
       have H := H1
       clear H1
       refine Classical.byCases (p := (t153.toList = ([45, 49, 48] : List UInt8))) (fun c15 => ?x9) (fun c15 => ?y9)
       case' x9 =>
        rw [if_pos c15] at H
        have c15b0 : (t153.toList == ([45, 49, 48] : List UInt8)) = true := beq_iff_eq.mpr c15
        have c15b1 : (t153.toList != ([45, 49, 48] : List UInt8)) = false := bne_eq_false_iff_eq.mpr c15
        clear c15
        replace H := Option.bind_eq_some_iff.mp H
        obtain ⟨t155, A160, H⟩ := H
        replace H : (if t155 = 2 then ((int11_Form.f (⟨#[48, 98, 95]⟩ : ByteArray)).bind fun t156 => (if t156 = 0 then ((int11_Form.f (⟨#[45, 48]⟩ : ByteArray)).bind fun t157 => (if t157 = 4 then ((int11_Form.f (⟨#[49, 58, 54, 48]⟩ : ByteArray)).bind fun t158 => (if t158 = 0 then ((int11_Form.f (⟨#[48, 48]⟩ : ByteArray)).bind fun t159 => (some (t159 == 3))) else (some false))) else (some false))) else (some false))) else (some false)) = some r := H
        have A16 := Aside0.mk A160
        clear A160
        refine Classical.byCases (p := (t155 = 2)) (fun c17 => ?x10) (fun c17 => ?y10)
        case' x10 =>
         rw [if_pos c17] at H
         have c17b0 : (t155 == 2) = true := beq_iff_eq.mpr c17
         have c17b1 : (t155 != 2) = false := bne_eq_false_iff_eq.mpr c17
         clear c17
         replace H := Option.bind_eq_some_iff.mp H
         obtain ⟨t156, A180, H⟩ := H
         replace H : (if t156 = 0 then ((int11_Form.f (⟨#[45, 48]⟩ : ByteArray)).bind fun t157 => (if t157 = 4 then ((int11_Form.f (⟨#[49, 58, 54, 48]⟩ : ByteArray)).bind fun t158 => (if t158 = 0 then ((int11_Form.f (⟨#[48, 48]⟩ : ByteArray)).bind fun t159 => (some (t159 == 3))) else (some false))) else (some false))) else (some false)) = some r := H
         have A18 := Aside0.mk A180
         clear A180
         refine Classical.byCases (p := (t156 = 0)) (fun c19 => ?x11) (fun c19 => ?y11)
         case' x11 =>
          rw [if_pos c19] at H
          have c19b0 : (t156 == 0) = true := beq_iff_eq.mpr c19
          have c19b1 : (t156 != 0) = false := bne_eq_false_iff_eq.mpr c19
          clear c19
          replace H := Option.bind_eq_some_iff.mp H
          obtain ⟨t157, A200, H⟩ := H
          replace H : (if t157 = 4 then ((int11_Form.f (⟨#[49, 58, 54, 48]⟩ : ByteArray)).bind fun t158 => (if t158 = 0 then ((int11_Form.f (⟨#[48, 48]⟩ : ByteArray)).bind fun t159 => (some (t159 == 3))) else (some false))) else (some false)) = some r := H
          have A20 := Aside0.mk A200
          clear A200
          refine Classical.byCases (p := (t157 = 4)) (fun c21 => ?x12) (fun c21 => ?y12)
          case' x12 =>
           rw [if_pos c21] at H
           have c21b0 : (t157 == 4) = true := beq_iff_eq.mpr c21
           have c21b1 : (t157 != 4) = false := bne_eq_false_iff_eq.mpr c21
           clear c21
           replace H := Option.bind_eq_some_iff.mp H
           obtain ⟨t158, A220, H⟩ := H
           replace H : (if t158 = 0 then ((int11_Form.f (⟨#[48, 48]⟩ : ByteArray)).bind fun t159 => (some (t159 == 3))) else (some false)) = some r := H
           have A22 := Aside0.mk A220
           clear A220
           refine Classical.byCases (p := (t158 = 0)) (fun c23 => ?x13) (fun c23 => ?y13)
           case' x13 =>
            rw [if_pos c23] at H
            have c23b0 : (t158 == 0) = true := beq_iff_eq.mpr c23
            have c23b1 : (t158 != 0) = false := bne_eq_false_iff_eq.mpr c23
            clear c23
            replace H := Option.bind_eq_some_iff.mp H
            obtain ⟨t159, A240, H⟩ := H
            replace H : (some (t159 == 3)) = some r := H
            have A24 := Aside0.mk A240
            clear A240
            obtain rfl := Option.some.inj H
            go_enter Tryd.func10, Tryd.ntmps10
            skip
           case' y13 =>
            rw [if_neg c23] at H
            have c23b0 : (t158 == 0) = false := beq_eq_false_iff_ne.mpr c23
            have c23b1 : (t158 != 0) = true := bne_iff_ne.mpr c23
            obtain rfl := Option.some.inj H
            go_enter Tryd.func10, Tryd.ntmps10
            skip
          case' y12 =>
           rw [if_neg c21] at H
           have c21b0 : (t157 == 4) = false := beq_eq_false_iff_ne.mpr c21
           have c21b1 : (t157 != 4) = true := bne_iff_ne.mpr c21
           obtain rfl := Option.some.inj H
           go_enter Tryd.func10, Tryd.ntmps10
           skip
         case' y11 =>
          rw [if_neg c19] at H
          have c19b0 : (t156 == 0) = false := beq_eq_false_iff_ne.mpr c19
          have c19b1 : (t156 != 0) = true := bne_iff_ne.mpr c19
          obtain rfl := Option.some.inj H
          go_enter Tryd.func10, Tryd.ntmps10
          skip
        case' y10 =>
         rw [if_neg c17] at H
         have c17b0 : (t155 == 2) = false := beq_eq_false_iff_ne.mpr c17
         have c17b1 : (t155 != 2) = true := bne_iff_ne.mpr c17
         obtain rfl := Option.some.inj H
         go_enter Tryd.func10, Tryd.ntmps10
         skip
       case' y9 =>
        rw [if_neg c15] at H
        have c15b0 : (t153.toList == ([45, 49, 48] : List UInt8)) = false := beq_eq_false_iff_ne.mpr c15
        have c15b1 : (t153.toList != ([45, 49, 48] : List UInt8)) = true := bne_iff_ne.mpr c15
        obtain rfl := Option.some.inj H
        go_enter Tryd.func10, Tryd.ntmps10
        skip
      case' y8 =>
       replace c14 := Bool.eq_false_iff.mpr c14
       subst c14
       have H1 : (some false) = some r := by rw [if_neg (show ¬ (false = true) by decide)] at H; exact H
       clear H
       have H := H1
       clear H1
       obtain rfl := Option.some.inj H
       go_enter Tryd.func10, Tryd.ntmps10
       skip
    case' y6 =>
     rw [if_neg c8] at H
     have c8b0 : (t149.toList == ([57, 48] : List UInt8)) = false := beq_eq_false_iff_ne.mpr c8
     have c8b1 : (t149.toList != ([57, 48] : List UInt8)) = true := bne_iff_ne.mpr c8
     obtain rfl := Option.some.inj H
     go_enter Tryd.func10, Tryd.ntmps10
     skip
   case' y5 =>
    replace c7 := Bool.eq_false_iff.mpr c7
    subst c7
    have H1 : (some false) = some r := by rw [if_neg (show ¬ (false = true) by decide)] at H; exact H
    clear H
    have H := H1
    clear H1
    obtain rfl := Option.some.inj H
    go_enter Tryd.func10, Tryd.ntmps10
    skip
  case' y4 =>
   rw [if_neg c6] at H
   have c6b0 : (t147.toList == ([56] : List UInt8)) = false := beq_eq_false_iff_ne.mpr c6
   have c6b1 : (t147.toList != ([56] : List UInt8)) = true := bne_iff_ne.mpr c6
   obtain rfl := Option.some.inj H
   go_enter Tryd.func10, Tryd.ntmps10
   skip
 case' y3 =>
  replace c5 := Bool.eq_false_iff.mpr c5
  subst c5
  have H1 : (some false) = some r := by rw [if_neg (show ¬ (false = true) by decide)] at H; exact H
  clear H
  have H := H1
  clear H1
  obtain rfl := Option.some.inj H
  go_enter Tryd.func10, Tryd.ntmps10
  skip
 case x7 | x13 | y13 | y12 | y11 | y10 | y9 | y8 | y6 | y5 | y4 | y3 =>
  as_aux_lemma =>
   go_wp2_with (first | ((with_reducible refine gate_callee (f := 13) rfl ?_); refine goesL_ (some 10) rfl rfl Tryd.func13 (by kernel_rfl) rfl #[.string (⟨#[48, 49, 48]⟩ : ByteArray)] rfl (by (try simp only [List.map_toArray, List.map_cons, List.map_nil]); first | done | rfl | (simp only [List.length_drop, List.length_take]; rfl)) ?_; (with_reducible refine (int11_Of.calls _ _ _ _ _ ?side1 A1.out).mono ?_); (case side1 => exact Go.Proofs.YtkijneohhilboaaDoor.PIT.Tabs_below HG.out bl); rintro e w25 ⟨rfl, hb⟩; refine ⟨_, rfl, ?_⟩; have n0_ := Aside0.mk (below_step bl hb); clear HB; have HB := n0_; clear n0_; (try clear hb); (try clear hb2); (try clear hk); (try clear hi)) | ((with_reducible refine gate_callee (f := 13) rfl ?_); refine goesL_ (some 14) rfl rfl Tryd.func13 (by kernel_rfl) rfl #[.string (⟨#[49, 58, 51, 48]⟩ : ByteArray)] rfl (by (try simp only [List.map_toArray, List.map_cons, List.map_nil]); first | done | rfl | (simp only [List.length_drop, List.length_take]; rfl)) ?_; (with_reducible refine (int11_Of.calls _ _ _ _ _ ?side1 A2.out).mono ?_); (case side1 => exact Go.Proofs.YtkijneohhilboaaDoor.PIT.Tabs_below HG.out bl); rintro e w26 ⟨rfl, hb⟩; refine ⟨_, rfl, ?_⟩; have n0_ := Aside0.mk (below_step bl hb); clear HB; have HB := n0_; clear n0_; (try clear hb); (try clear hb2); (try clear hk); (try clear hi)) | ((with_reducible refine gate_callee (f := 13) rfl ?_); refine goesL_ (some 18) rfl rfl Tryd.func13 (by kernel_rfl) rfl #[.string (⟨#[48, 111, 55]⟩ : ByteArray)] rfl (by (try simp only [List.map_toArray, List.map_cons, List.map_nil]); first | done | rfl | (simp only [List.length_drop, List.length_take]; rfl)) ?_; (with_reducible refine (int11_Of.calls _ _ _ _ _ ?side1 A3.out).mono ?_); (case side1 => exact Go.Proofs.YtkijneohhilboaaDoor.PIT.Tabs_below HG.out bl); rintro e w27 ⟨rfl, hb⟩; refine ⟨_, rfl, ?_⟩; have n0_ := Aside0.mk (below_step bl hb); clear HB; have HB := n0_; clear n0_; (try clear hb); (try clear hb2); (try clear hk); (try clear hi)) | ((with_reducible refine gate_callee (f := 13) rfl ?_); refine goesL_ (some 22) rfl rfl Tryd.func13 (by kernel_rfl) rfl #[.string (⟨#[45, 49, 95, 48]⟩ : ByteArray)] rfl (by (try simp only [List.map_toArray, List.map_cons, List.map_nil]); first | done | rfl | (simp only [List.length_drop, List.length_take]; rfl)) ?_; (with_reducible refine (int11_Of.calls _ _ _ _ _ ?side1 A4.out).mono ?_); (case side1 => exact Go.Proofs.YtkijneohhilboaaDoor.PIT.Tabs_below HG.out bl); rintro e w28 ⟨rfl, hb⟩; refine ⟨_, rfl, ?_⟩; have n0_ := Aside0.mk (below_step bl hb); clear HB; have HB := n0_; clear n0_; (try clear hb); (try clear hb2); (try clear hk); (try clear hi)) | (go_at_call 14; (with_reducible refine (int11_Form.calls _ _ _ A16.out).mono ?_); rintro e w29 ⟨rfl, hb⟩; have n0_ := Aside0.mk (below_step bl hb); clear HB; have HB := n0_; clear n0_; (try clear hb); (try clear hb2); (try clear hk); (try clear hi)) | (go_at_call 14; (with_reducible refine (int11_Form.calls _ _ _ A18.out).mono ?_); rintro e w30 ⟨rfl, hb⟩; have n0_ := Aside0.mk (below_step bl hb); clear HB; have HB := n0_; clear n0_; (try clear hb); (try clear hb2); (try clear hk); (try clear hi)) | (go_at_call 14; (with_reducible refine (int11_Form.calls _ _ _ A20.out).mono ?_); rintro e w31 ⟨rfl, hb⟩; have n0_ := Aside0.mk (below_step bl hb); clear HB; have HB := n0_; clear n0_; (try clear hb); (try clear hb2); (try clear hk); (try clear hi)) | (go_at_call 14; (with_reducible refine (int11_Form.calls _ _ _ A22.out).mono ?_); rintro e w32 ⟨rfl, hb⟩; have n0_ := Aside0.mk (below_step bl hb); clear HB; have HB := n0_; clear n0_; (try clear hb); (try clear hb2); (try clear hk); (try clear hi)) | (go_at_call 14; (with_reducible refine (int11_Form.calls _ _ _ A24.out).mono ?_); rintro e w33 ⟨rfl, hb⟩; have n0_ := Aside0.mk (below_step bl hb); clear HB; have HB := n0_; clear n0_; (try clear hb); (try clear hb2); (try clear hk); (try clear hi)))
   go_ret
   exact ⟨by first | rfl | (simp [errW_none, errW_some] <;> rfl) | (simp [*, errW_none, errW_some] <;> rfl), bl⟩
/-! ### targumref4_IsDigit: function 17 -/
def targumref4_IsDigit.f (a0 : Int) : Option (Bool) := if a0 ≥ 48 then (some (decide (a0 ≤ 57))) else (some false)
set_option maxHeartbeats 8000000 in
set_option maxRecDepth 100000 in
theorem targumref4_IsDigit.calls (a0 : Int) (r : Bool) (w : World) (h : targumref4_IsDigit.f a0 = some r) :
  Calls Tryd.prog 17 #[.int .u8 a0] w fun e w' => e = .returned (.bool r) ∧ Drawn0 w w' := by
 have H : (if a0 ≥ 48 then (some (decide (a0 ≤ 57))) else (some false)) = some r := h
 clear h
 by_cases c2 : a0 ≥ 48
 ·rw [if_pos c2] at H
  have c2b0 : decide (48 ≤ a0) = true := decide_eq_true c2
  clear c2
  obtain rfl := Option.some.inj H
  go_enter Tryd.func17, Tryd.ntmps17
  go_wp2
  go_ret
  exact ⟨by first | rfl | (simp; done) | (simp [*]; done) | (simp [wrap64]; done), by repeat (first | exact Drawn0.refl _ | apply Drawn0.step)⟩
 ·rw [if_neg c2] at H
  have c2b0 : decide (48 ≤ a0) = false := decide_eq_false c2
  clear c2
  obtain rfl := Option.some.inj H
  go_enter Tryd.func17, Tryd.ntmps17
  go_wp2
  go_ret
  exact ⟨by first | rfl | (simp; done) | (simp [*]; done) | (simp [wrap64]; done), by repeat (first | exact Drawn0.refl _ | apply Drawn0.step)⟩

/-! ### targumref4_Digits: function 22 -/
def targumref4_Digits.l0 : Nat → ByteArray → Int → Option (Bool)
 | 0, _, _ => none
 | k + 1, x0, x3 => if x3 < (x0.size : Int) then (if 0 ≤ x3 then ((targumref4_IsDigit.f (bt x0 x3)).bind fun t160 => (if t160 = true then (targumref4_Digits.l0 k x0 (wrap64 (x3 + 1))) else (some false))) else (none)) else (some (decide ((x0.size : Int) > 0)))
def targumref4_Digits.f (k : Nat) (a0 : ByteArray) : Option (Bool) := targumref4_Digits.l0 k a0 0
theorem targumref4_Digits.mono_l : ∀ k, (∀ y0 y1, LeO (targumref4_Digits.l0 k y0 y1) (targumref4_Digits.l0 (k + 1) y0 y1))
 | 0 => fun _ _ r h => by simp [targumref4_Digits.l0] at h
 | k + 1 => by
  have ih0 := targumref4_Digits.mono_l k
  ·intro y0 y1
   unfold targumref4_Digits.l0
   repeat' first
   | (with_reducible exact ih0 _ _)
   | (with_reducible exact LeO.refl _)
   | (with_reducible exact LeO.none _)
   | (with_reducible refine LeO.ite ?_ ?_)
   | (with_reducible refine LeO.bind ?_ (fun _ => ?_))
   | exact ih0 _ _
   | exact LeO.none _
   | refine LeO.ite ?_ ?_
   | refine LeO.bind ?_ (fun _ => ?_)
theorem targumref4_Digits.mono : ∀ a0 k, LeO (targumref4_Digits.f k a0) (targumref4_Digits.f (k + 1) a0) := by
 intro a0 k
 have ih0 := targumref4_Digits.mono_l k
 unfold targumref4_Digits.f
 repeat' first
   | (with_reducible exact ih0 _ _)
   | (with_reducible exact LeO.refl _)
   | (with_reducible exact LeO.none _)
   | (with_reducible refine LeO.ite ?_ ?_)
   | (with_reducible refine LeO.bind ?_ (fun _ => ?_))
   | exact ih0 _ _
   | exact LeO.none _
   | refine LeO.ite ?_ ?_
   | refine LeO.bind ?_ (fun _ => ?_)
set_option maxHeartbeats 8000000 in
set_option maxRecDepth 100000 in
theorem targumref4_Digits.calls (k : Nat) (a0 : ByteArray) (r : Bool) (w : World) (h : targumref4_Digits.f k a0 = some r) :
  Calls Tryd.prog 22 #[.string a0] w fun e w' => e = .returned (.bool r) ∧ Drawn0 w w' := by
 have H : (targumref4_Digits.l0 k a0 0) = some r := h
 clear h
 have H' := Aside0.mk H
 clear H
 go_enter Tryd.func22, Tryd.ntmps22
 go_wp2
 go_loopg [3] k (fun kq v3 w' => ∃ (x3_1 : Int), v3 = .int .i64 x3_1 ∧ Aside0 (targumref4_Digits.l0 kq a0 x3_1 = some r) ∧ Aside0 (kq ≤ k) ∧ Drawn0 w w')
 case atStart => exact ⟨(0), (by first | rfl | (simp; done) | (simp [*]; done) | (simp [wrap64]; done)), H', ⟨Nat.le_refl _⟩, by repeat (first | exact Drawn0.refl _ | apply Drawn0.step)⟩
 case round =>
  clear H'
  obtain ⟨x3_1, rfl, HA, HK1, ⟨m1, rfl⟩⟩ := hrel
  cases gk with
  | zero => exact absurd HA.out (by simp [targumref4_Digits.l0])
  | succ k1 =>
   have H := HA.out
   clear HA
   simp only [targumref4_Digits.l0] at H
   by_cases c2 : x3_1 < (a0.size : Int)
   ·rw [if_pos c2] at H
    have c2b0 : decide (x3_1 < (a0.size : Int)) = true := decide_eq_true c2
    clear c2
    by_cases c3 : 0 ≤ x3_1
    ·rw [if_pos c3] at H
     have c3b0 : decide (0 ≤ x3_1) = true := decide_eq_true c3
     clear c3
     replace H := Option.bind_eq_some_iff.mp H
     obtain ⟨t160, A50, H⟩ := H
     replace H : (if t160 = true then (targumref4_Digits.l0 k1 a0 (wrap64 (x3_1 + 1))) else (some false)) = some r := H
     have A5 := Aside0.mk A50
     clear A50
     by_cases c6 : t160 = true
     ·subst c6
      have H1 : (targumref4_Digits.l0 k1 a0 (wrap64 (x3_1 + 1))) = some r := by rw [if_pos rfl] at H; exact H
      clear H
      have H := H1
      clear H1
      have H' := Aside0.mk H
      clear H
      have p4 : 0 ≤ (x3_1 : Int) := of_decide_eq_true (by first | (with_reducible assumption) | assumption)
      have q4 : x3_1 < (a0.size : Int) := of_decide_eq_true (by first | (with_reducible assumption) | assumption)
      have hx4 := bt_at a0 x3_1
      replace p4 := eq_true p4
      replace q4 := eq_true q4
      go_wp2_with (first | ((with_reducible refine gate_callee (f := 17) rfl ?_); refine goesL_ (some 13) rfl rfl Tryd.func17 (by kernel_rfl) rfl #[.int .u8 (bt a0 x3_1)] rfl (by (try simp only [List.map_toArray, List.map_cons, List.map_nil]); first | done | rfl | (simp only [List.length_drop, List.length_take]; rfl)) ?_; (with_reducible refine (targumref4_IsDigit.calls (bt a0 x3_1) true _ A5.out).mono ?_); rintro e w' ⟨rfl, ⟨nd, rfl⟩⟩; refine ⟨_, rfl, ?_⟩))
      go_roundg k1
      case measure => have := HK1.out; omega
      case rel => exact ⟨(wrap64 (x3_1 + 1)), (by first | rfl | (simp; done) | (simp [*]; done) | (simp [wrap64]; done)), H', ⟨by have := HK1.out; omega⟩, by repeat (first | exact Drawn0.refl _ | apply Drawn0.step)⟩
     ·replace c6 := Bool.eq_false_iff.mpr c6
      subst c6
      have H1 : (some false) = some r := by rw [if_neg (show ¬ (false = true) by decide)] at H; exact H
      clear H
      have H := H1
      clear H1
      obtain rfl := Option.some.inj H
      have p4 : 0 ≤ (x3_1 : Int) := of_decide_eq_true (by first | (with_reducible assumption) | assumption)
      have q4 : x3_1 < (a0.size : Int) := of_decide_eq_true (by first | (with_reducible assumption) | assumption)
      have hx4 := bt_at a0 x3_1
      replace p4 := eq_true p4
      replace q4 := eq_true q4
      go_wp2_with (first | ((with_reducible refine gate_callee (f := 17) rfl ?_); refine goesL_ (some 13) rfl rfl Tryd.func17 (by kernel_rfl) rfl #[.int .u8 (bt a0 x3_1)] rfl (by (try simp only [List.map_toArray, List.map_cons, List.map_nil]); first | done | rfl | (simp only [List.length_drop, List.length_take]; rfl)) ?_; (with_reducible refine (targumref4_IsDigit.calls (bt a0 x3_1) false _ A5.out).mono ?_); rintro e w' ⟨rfl, ⟨nd, rfl⟩⟩; refine ⟨_, rfl, ?_⟩))
      go_ret
      exact ⟨by first | rfl | (simp; done) | (simp [*]; done) | (simp [wrap64]; done), by repeat (first | exact Drawn0.refl _ | apply Drawn0.step)⟩
    ·rw [if_neg c3] at H
     exact absurd H (by simp)
   ·rw [if_neg c2] at H
    have c2b0 : decide (x3_1 < (a0.size : Int)) = false := decide_eq_false c2
    clear c2
    obtain rfl := Option.some.inj H
    go_wp2
    go_ret
    exact ⟨by first | rfl | (simp; done) | (simp [*]; done) | (simp [wrap64]; done), by repeat (first | exact Drawn0.refl _ | apply Drawn0.step)⟩

end Go.Proofs.YtkijneohhilboaaDoor.PI
