/- Written by this session's own program (xprint, made over the kit's print): Lean functions with the same answers as the Go functions, and the proofs of that. Not trusted: Lean checks it. -/
import Derived.Test.YtkphlddgfmgogaaDoorPWx0
import Derived.Test.YtkphlddgfmgogaaDoorPWx2
import Derived.Test.YtkphlddgfmgogaaDoorPWx4
import Derived.Test.YtkphlddgfmgogaaDoorPWx6
import Derived.Test.YtkphlddgfmgogaaDoorPWx7m
import Derived.Test.YtkphlddgfmgogaaDoorXW
namespace Go.Proofs.YtkphlddgfmgogaaDoor.PW
open Go.Proofs.YtkphlddgfmgogaaDoor.XW Go.RowKit Go.Proofs.YtkphlddgfmgogaaDoorW.PrintWords Go.Proofs.YtkphlddgfmgogaaDoorW.PrintLast Go.Proofs.YtkphlddgfmgogaaDoorW.PrintMore
attribute [local go_sem] max2_int min2_int max_two min_two max_three min_three max_four min_four   -- for this text's walks alone
set_option linter.unusedVariables false
set_option linter.unusedSimpArgs false

/-! ### targumlaw2_BrkWhole: function 3 -/
mutual
def targumlaw2_BrkWhole.l0 : Nat → ByteArray → Int → List (S27) → Int → Int → Option (Bool)
  | 0, _, _, _, _, _ => none
  | k + 1, x0, x5, x6, x7, x8 => if x8 < (x6.length : Int) then (if 0 ≤ x8 then (if ((rd_T27 x6 x8).f0) = x7 then (if ((rd_T27 x6 x8).f1) < x7 then (targumlaw2_BrkWhole.j1 k x0 x5 x6 x8 true) else (if ((rd_T27 x6 x8).f2) < ((rd_T27 x6 x8).f1) then (targumlaw2_BrkWhole.j1 k x0 x5 x6 x8 true) else (if ((rd_T27 x6 x8).f2) > (x0.size : Int) then (targumlaw2_BrkWhole.j1 k x0 x5 x6 x8 true) else (if ((rd_T27 x6 x8).f2) = ((rd_T27 x6 x8).f1) then (if x8 < (wrap64 ((x6.length : Int) - 1)) then (targumlaw2_BrkWhole.j1 k x0 x5 x6 x8 true) else ((brk_Break.f k x5 x0 ((rd_T27 x6 x8).f1)).bind fun t177 => (targumlaw2_BrkWhole.j1 k x0 x5 x6 x8 ((wrap64 (((rd_T27 x6 x8).f2) - ((rd_T27 x6 x8).f1))) != t177)))) else ((brk_Break.f k x5 x0 ((rd_T27 x6 x8).f1)).bind fun t181 => (targumlaw2_BrkWhole.j1 k x0 x5 x6 x8 ((wrap64 (((rd_T27 x6 x8).f2) - ((rd_T27 x6 x8).f1))) != t181))))))) else (targumlaw2_BrkWhole.j1 k x0 x5 x6 x8 true)) else (none)) else (if x7 = (x0.size : Int) then (if (x6.length : Int) = 0 then (some true) else (if 0 ≤ (wrap64 ((x6.length : Int) - 1)) then (if (wrap64 ((x6.length : Int) - 1)) < (x6.length : Int) then (some (decide (((rd_T27 x6 (wrap64 ((x6.length : Int) - 1))).f0) < (x0.size : Int)))) else (none)) else (none))) else (some false))
def targumlaw2_BrkWhole.j1 : Nat → ByteArray → Int → List (S27) → Int → Bool → Option (Bool)
  | 0, _, _, _, _, _ => none
  | k + 1, x0, x5, x6, x8, x106 => if x106 = true then (some false) else (if 0 ≤ x8 then (if x8 < (x6.length : Int) then (targumlaw2_BrkWhole.l1 k x0 x5 x6 x8 ((rd_T27 x6 x8).f0)) else (none)) else (none))
def targumlaw2_BrkWhole.l1 : Nat → ByteArray → Int → List (S27) → Int → Int → Option (Bool)
  | 0, _, _, _, _, _ => none
  | k + 1, x0, x5, x6, x8, x9 => if 0 ≤ x8 then (if x8 < (x6.length : Int) then (if x9 < ((rd_T27 x6 x8).f1) then ((brk_Break.f k x5 x0 x9).bind fun t184 => (if t184 = 0 then (targumlaw2_BrkWhole.l1 k x0 x5 x6 x8 (wrap64 (x9 + 1))) else (some false))) else (targumlaw2_BrkWhole.l0 k x0 x5 x6 ((rd_T27 x6 x8).f2) (wrap64 (x8 + 1)))) else (none)) else (none)
end
def targumlaw2_BrkWhole.f (k : Nat) (a0 : ByteArray) (a1 : Bool) : Option (Bool) := (targumlaw2_known.f k).bind fun t161 => (if t161 = true then (if (a0.size : Int) > 300 then (some true) else ((targumhelp_Version.f a1).bind fun t162 => ((brk_Lines.f k t162 a0).bind fun t163 => (targumlaw2_BrkWhole.l0 k a0 t162 t163 0 0)))) else (some false))
theorem targumlaw2_BrkWhole.mono_l : ∀ k, (∀ y0 y1 y2 y3 y4, LeO (targumlaw2_BrkWhole.l0 k y0 y1 y2 y3 y4) (targumlaw2_BrkWhole.l0 (k + 1) y0 y1 y2 y3 y4)) ∧ (∀ y0 y1 y2 y3 y4, LeO (targumlaw2_BrkWhole.j1 k y0 y1 y2 y3 y4) (targumlaw2_BrkWhole.j1 (k + 1) y0 y1 y2 y3 y4)) ∧ (∀ y0 y1 y2 y3 y4, LeO (targumlaw2_BrkWhole.l1 k y0 y1 y2 y3 y4) (targumlaw2_BrkWhole.l1 (k + 1) y0 y1 y2 y3 y4))
  | 0 => ⟨fun _ _ _ _ _ r h => by simp [targumlaw2_BrkWhole.l0] at h, fun _ _ _ _ _ r h => by simp [targumlaw2_BrkWhole.j1] at h, fun _ _ _ _ _ r h => by simp [targumlaw2_BrkWhole.l1] at h⟩
  | k + 1 => by
    obtain ⟨ih0, ih1, ih2⟩ := targumlaw2_BrkWhole.mono_l k
    refine ⟨?_, ?_, ?_⟩
    · intro y0 y1 y2 y3 y4
      unfold targumlaw2_BrkWhole.l0
      repeat' first
      | (with_reducible exact ih0 _ _ _ _ _)
      | (with_reducible exact ih1 _ _ _ _ _)
      | (with_reducible exact ih2 _ _ _ _ _)
      | (with_reducible exact brk_Break.mono _ _ _ _)
      | (with_reducible exact brk_Lines.mono _ _ _)
      | (with_reducible exact targumlaw2_known.mono _)
      | (with_reducible exact LeO.refl _)
      | (with_reducible exact LeO.none _)
      | (with_reducible refine LeO.ite ?_ ?_)
      | (with_reducible refine LeO.bind ?_ (fun _ => ?_))
      | exact ih0 _ _ _ _ _
      | exact ih1 _ _ _ _ _
      | exact ih2 _ _ _ _ _
      | exact brk_Break.mono _ _ _ _
      | exact brk_Lines.mono _ _ _
      | exact targumlaw2_known.mono _
      | exact LeO.none _
      | refine LeO.ite ?_ ?_
      | refine LeO.bind ?_ (fun _ => ?_)
    · intro y0 y1 y2 y3 y4
      unfold targumlaw2_BrkWhole.j1
      repeat' first
      | (with_reducible exact ih0 _ _ _ _ _)
      | (with_reducible exact ih1 _ _ _ _ _)
      | (with_reducible exact ih2 _ _ _ _ _)
      | (with_reducible exact brk_Break.mono _ _ _ _)
      | (with_reducible exact brk_Lines.mono _ _ _)
      | (with_reducible exact targumlaw2_known.mono _)
      | (with_reducible exact LeO.refl _)
      | (with_reducible exact LeO.none _)
      | (with_reducible refine LeO.ite ?_ ?_)
      | (with_reducible refine LeO.bind ?_ (fun _ => ?_))
      | exact ih0 _ _ _ _ _
      | exact ih1 _ _ _ _ _
      | exact ih2 _ _ _ _ _
      | exact brk_Break.mono _ _ _ _
      | exact brk_Lines.mono _ _ _
      | exact targumlaw2_known.mono _
      | exact LeO.none _
      | refine LeO.ite ?_ ?_
      | refine LeO.bind ?_ (fun _ => ?_)
    · intro y0 y1 y2 y3 y4
      unfold targumlaw2_BrkWhole.l1
      repeat' first
      | (with_reducible exact ih0 _ _ _ _ _)
      | (with_reducible exact ih1 _ _ _ _ _)
      | (with_reducible exact ih2 _ _ _ _ _)
      | (with_reducible exact brk_Break.mono _ _ _ _)
      | (with_reducible exact brk_Lines.mono _ _ _)
      | (with_reducible exact targumlaw2_known.mono _)
      | (with_reducible exact LeO.refl _)
      | (with_reducible exact LeO.none _)
      | (with_reducible refine LeO.ite ?_ ?_)
      | (with_reducible refine LeO.bind ?_ (fun _ => ?_))
      | exact ih0 _ _ _ _ _
      | exact ih1 _ _ _ _ _
      | exact ih2 _ _ _ _ _
      | exact brk_Break.mono _ _ _ _
      | exact brk_Lines.mono _ _ _
      | exact targumlaw2_known.mono _
      | exact LeO.none _
      | refine LeO.ite ?_ ?_
      | refine LeO.bind ?_ (fun _ => ?_)
theorem targumlaw2_BrkWhole.mono : ∀ a0 a1 k, LeO (targumlaw2_BrkWhole.f k a0 a1) (targumlaw2_BrkWhole.f (k + 1) a0 a1) := by
  intro a0 a1 k
  obtain ⟨ih0, ih1, ih2⟩ := targumlaw2_BrkWhole.mono_l k
  unfold targumlaw2_BrkWhole.f
  repeat' first
      | (with_reducible exact ih0 _ _ _ _ _)
      | (with_reducible exact ih1 _ _ _ _ _)
      | (with_reducible exact ih2 _ _ _ _ _)
      | (with_reducible exact brk_Break.mono _ _ _ _)
      | (with_reducible exact brk_Lines.mono _ _ _)
      | (with_reducible exact targumlaw2_known.mono _)
      | (with_reducible exact LeO.refl _)
      | (with_reducible exact LeO.none _)
      | (with_reducible refine LeO.ite ?_ ?_)
      | (with_reducible refine LeO.bind ?_ (fun _ => ?_))
      | exact ih0 _ _ _ _ _
      | exact ih1 _ _ _ _ _
      | exact ih2 _ _ _ _ _
      | exact brk_Break.mono _ _ _ _
      | exact brk_Lines.mono _ _ _
      | exact targumlaw2_known.mono _
      | exact LeO.none _
      | refine LeO.ite ?_ ?_
      | refine LeO.bind ?_ (fun _ => ?_)
def targumlaw2_BrkWhole.T11 : Bool × List (List Nat × List Nat) := (true, [([], []), ([], []), ([0, 1], [0, 1]), ([2], [2]), ([3], [3]), ([], []), ([4, 5], [4, 5]), ([6], [6]), ([7], [7]), ([7], [7]), ([8, 9, 7], [7, 8, 9]), ([10, 7], [7, 10]), ([11, 7], [7, 11]), ([7], [7]), ([12, 13, 7], [7, 12, 13]), ([7, 14], [7, 14]), ([15, 7], [15]), ([16], [16]), ([16], [16]), ([17, 18, 16], [16, 17, 18]), ([19, 16], [16, 19]), ([20, 16], [16, 20]), ([16], [16]), ([16], [16]), ([22, 23, 16], [16, 22, 23]), ([24, 16], [16, 24]), ([25, 16], [16, 25]), ([21, 26, 16], [16, 21, 26]), ([16, 27], [16, 27]), ([28, 16], [28]), ([29], [29]), ([29], [29]), ([30, 31, 29], [29, 30, 31]), ([32, 29], [29, 32]), ([33, 29], [29, 33]), ([29], [29]), ([35, 29], [29, 35]), ([34, 36, 29], [29, 34, 36]), ([29, 37], [29, 37]), ([38, 29], [38]), ([39], [39]), ([39], [39]), ([40, 41, 39], [39, 40, 41]), ([42, 39], [39, 42]), ([43, 39], [39, 43]), ([39], [39]), ([39], [39]), ([45, 46, 39], [39, 45, 46]), ([47, 39], [39, 47]), ([48, 39], [39, 48]), ([44, 49, 39], [39, 44, 49]), ([50, 39, 39], [39, 50]), ([51], [51]), ([51], [51]), ([53, 51], [51, 53]), ([54, 51], [51, 54]), ([52, 55, 51], [51, 52, 55]), ([51, 56, 39], [39, 51, 56]), ([39, 57], [39, 57]), ([58, 51], [58]), ([59], [59]), ([59], [59]), ([60, 61, 59], [59, 60, 61]), ([62, 59], [59, 62]), ([63, 59], [59, 63]), ([59], [59]), ([59], [59]), ([65, 66, 59], [59, 65, 66]), ([67, 59], [59, 67]), ([68, 59], [59, 68]), ([64, 69, 59], [59, 64, 69]), ([59], [59]), ([59], [59]), ([59], [59]), ([59], [59]), ([73, 74, 59], [59, 73, 74]), ([75, 59], [59, 75]), ([76, 59], [59, 76]), ([71, 72, 77, 59, 59], [59, 71, 72, 77]), ([70, 78, 59], [59, 70, 78]), ([59, 79], [59, 79])])
def targumlaw2_BrkWhole.B11 : List Nat := [0, 0, 3, 7, 15, 0, 63, 127, 255, 255, 1023, 2047, 4095, 255, 16383, 32767, 65535, 131071, 131071, 524287, 1048575, 2097151, 131071, 131071, 12713983, 29491199, 63045631, 134217727, 268435455, 536870911, 1073741823, 1073741823, 4294967295, 8589934591, 17179869183, 1073741823, 35433480191, 137438953471, 274877906943, 549755813887, 1099511627775, 1099511627775, 4398046511103, 8796093022207, 17592186044415, 1099511627775, 1099511627775, 106652627894271, 247390116249599, 528865092960255, 1125899906842623, 2251799813685247, 4503599627370495, 4503599627370495, 13510798882111487, 31525197391593471, 72057594037927935, 144115188075855871, 288230376151711743, 576460752303423487, 1152921504606846975, 1152921504606846975, 4611686018427387903, 9223372036854775807, 18446744073709551615, 1152921504606846975, 1152921504606846975, 111833385946864156671, 259407338536540569599, 554555243715893395455, 1180591620717411303423, 1152921504606846975, 1152921504606846975, 1152921504606846975, 1152921504606846975, 28335351818722478129151, 66114283681679639838719, 141672147407593963257855, 299871424583727077916671, 604462909807314587353087, 1208925819614629174706175]
theorem targumlaw2_BrkWhole.tab11 : rtab .any (opsOf Tryd.f3 11) = targumlaw2_BrkWhole.T11 := by kernel_rfl
theorem targumlaw2_BrkWhole.bits11 : waitsOk targumlaw2_BrkWhole.T11.2 targumlaw2_BrkWhole.B11 = true := by kernel_rfl
set_option maxHeartbeats 8000000 in
set_option maxRecDepth 100000 in
theorem targumlaw2_BrkWhole.calls (k : Nat) (a0 : ByteArray) (a1 : Bool) (r : Bool) (w : World) (hG : Lib.Utf8Tabs 0 1 w) (h : targumlaw2_BrkWhole.f k a0 a1 = some r) :
    Calls Tryd.prog 3 #[.string a0, .bool a1] w fun e w' => e = .returned (.bool r) ∧ Below w.heap.size w w' := by
  have HG := Aside0.mk hG
  clear hG
  have HB := Aside0.mk (Below.refl w.heap.size w)
  have H : ((targumlaw2_known.f k).bind fun t161 => (if t161 = true then (if (a0.size : Int) > 300 then (some true) else ((targumhelp_Version.f a1).bind fun t162 => ((brk_Lines.f k t162 a0).bind fun t163 => (targumlaw2_BrkWhole.l0 k a0 t162 t163 0 0)))) else (some false))) = some r := h
  clear h
  replace H := Option.bind_eq_some_iff.mp H
  obtain ⟨t161, A30, H⟩ := H
  replace H : (if t161 = true then (if (a0.size : Int) > 300 then (some true) else ((targumhelp_Version.f a1).bind fun t162 => ((brk_Lines.f k t162 a0).bind fun t163 => (targumlaw2_BrkWhole.l0 k a0 t162 t163 0 0)))) else (some false)) = some r := H
  have A3 := Aside0.mk A30
  clear A30
  by_cases c4 : t161 = true
  · subst c4
    have H1 : (if (a0.size : Int) > 300 then (some true) else ((targumhelp_Version.f a1).bind fun t162 => ((brk_Lines.f k t162 a0).bind fun t163 => (targumlaw2_BrkWhole.l0 k a0 t162 t163 0 0)))) = some r := by rw [if_pos rfl] at H; exact H
    clear H
    have H := H1
    clear H1
    by_cases c5 : (a0.size : Int) > 300
    · rw [if_pos c5] at H
      have c5b0 : decide (300 < (a0.size : Int)) = true := decide_eq_true c5
      have c5b1 : decide (300 < a0.size) = true := decide_eq_true (by omega)
      clear c5
      obtain rfl := Option.some.inj H
      go_enter Tryd.func3, Tryd.ntmps3
      go_wp2_with (first | ((with_reducible refine gate_callee (f := 9) rfl ?_); refine goesL_ (some 10) rfl rfl Tryd.func9 (by kernel_rfl) rfl #[] rfl (by (try simp only [List.map_toArray, List.map_cons, List.map_nil]); first | done | rfl | (simp only [List.length_drop, List.length_take]; rfl)) ?_; (with_reducible refine (targumlaw2_known.calls k  true _ ?side1 A3.out).mono ?_); (case side1 => exact Utf8Tabs_below HG.out (by repeat (first | (with_reducible first | exact HB.out | apply below_alloc | apply pw_below_drewN | apply below_drew1) | exact HB.out))); rintro e w6 ⟨rfl, hb⟩; refine ⟨_, rfl, ?_⟩; have n0_ := Aside0.mk (below_step (by repeat (first | (with_reducible first | exact HB.out | apply below_alloc | apply pw_below_drewN | apply below_drew1) | exact HB.out)) hb); clear HB; have HB := n0_; clear n0_; (try clear hb); (try clear hb2); (try clear hk); (try clear hi)))
      go_ret
      exact ⟨by first | rfl | (simp [errW_none, errW_some] <;> rfl) | (simp [*, errW_none, errW_some] <;> rfl), by repeat (first | (with_reducible first | exact HB.out | apply below_alloc | apply pw_below_drewN | apply below_drew1) | exact HB.out)⟩
    · rw [if_neg c5] at H
      have c5b0 : decide (300 < (a0.size : Int)) = false := decide_eq_false c5
      have c5b1 : decide (300 < a0.size) = false := decide_eq_false (by omega)
      clear c5
      replace H := Option.bind_eq_some_iff.mp H
      obtain ⟨t162, A70, H⟩ := H
      replace H : ((brk_Lines.f k t162 a0).bind fun t163 => (targumlaw2_BrkWhole.l0 k a0 t162 t163 0 0)) = some r := H
      have A7 := Aside0.mk A70
      clear A70
      replace H := Option.bind_eq_some_iff.mp H
      obtain ⟨t163, A80, H⟩ := H
      replace H : (targumlaw2_BrkWhole.l0 k a0 t162 t163 0 0) = some r := H
      have A8 := Aside0.mk A80
      clear A80
      have H' := Aside0.mk H
      clear H
      go_enter Tryd.func3, Tryd.ntmps3
      go_wp2_with (first | ((with_reducible refine gate_callee (f := 9) rfl ?_); refine goesL_ (some 10) rfl rfl Tryd.func9 (by kernel_rfl) rfl #[] rfl (by (try simp only [List.map_toArray, List.map_cons, List.map_nil]); first | done | rfl | (simp only [List.length_drop, List.length_take]; rfl)) ?_; (with_reducible refine (targumlaw2_known.calls k  true _ ?side1 A3.out).mono ?_); (case side1 => exact Utf8Tabs_below HG.out (by repeat (first | (with_reducible first | exact HB.out | apply below_alloc | apply pw_below_drewN | apply below_drew1) | exact HB.out))); rintro e w9 ⟨rfl, hb⟩; refine ⟨_, rfl, ?_⟩; have n0_ := Aside0.mk (below_step (by repeat (first | (with_reducible first | exact HB.out | apply below_alloc | apply pw_below_drewN | apply below_drew1) | exact HB.out)) hb); clear HB; have HB := n0_; clear n0_; (try clear hb); (try clear hb2); (try clear hk); (try clear hi)) | ((with_reducible refine gate_callee (f := 10) rfl ?_); refine goesL_ (some 16) rfl rfl Tryd.func10 (by kernel_rfl) rfl #[.bool a1] rfl (by (try simp only [List.map_toArray, List.map_cons, List.map_nil]); first | done | rfl | (simp only [List.length_drop, List.length_take]; rfl)) ?_; (with_reducible refine (targumhelp_Version.calls a1 t162 _ A7.out).mono ?_); rintro e w' ⟨rfl, ⟨nd, rfl⟩⟩; refine ⟨_, rfl, ?_⟩) | ((with_reducible refine gate_callee (f := 11) rfl ?_); refine goesL_ (some 19) rfl rfl Tryd.func11 (by kernel_rfl) rfl #[.int .i64 t162, .string a0] rfl (by (try simp only [List.map_toArray, List.map_cons, List.map_nil]); first | done | rfl | (simp only [List.length_drop, List.length_take]; rfl)) ?_; (with_reducible refine (brk_Lines.calls k t162 a0 t163 _ A8.out).mono ?_); rintro e w10 ⟨v164, rfl, ho0, hb⟩; refine ⟨_, rfl, ?_⟩; have n0_ := Aside0.mk (Kd.R_lower ho0 (below_size (by repeat (first | (with_reducible first | exact HB.out | apply below_alloc | apply pw_below_drewN | apply below_drew1) | exact HB.out)))); have n1_ := Aside0.mk (below_step (by repeat (first | (with_reducible first | exact HB.out | apply below_alloc | apply pw_below_drewN | apply below_drew1) | exact HB.out)) hb); clear HB; have HO165 := n0_; have HB := n1_; clear n0_ n1_; (try clear hb); (try clear hb2); (try clear hk); (try clear hi); (try clear ho0)))
      go_loopg [7, 8] k (fun kq v7 v8 w' => ∃ (x7_1 : Int) (x8_1 : Int), v7 = .int .i64 x7_1 ∧ v8 = .int .i64 x8_1 ∧ Aside0 (targumlaw2_BrkWhole.l0 kq a0 t162 t163 x7_1 x8_1 = some r) ∧ Aside0 (kq ≤ k) ∧ Aside0 (Kd.R k27 27 w' w.heap.size (fun _ => True) v164 t163) ∧ Aside0 (Below w.heap.size w w'))
      case atStart => exact ⟨(0), (0), (by first | rfl | (simp; done) | (simp [*]; done) | (simp [wrap64]; done)), (by first | rfl | (simp; done) | (simp [*]; done) | (simp [wrap64]; done)), H', ⟨Nat.le_refl _⟩, ⟨by (with_reducible repeat (first | apply Kd.R_alloc | apply Kd.R_drewN | apply Kd.R_drew)); exact HO165.out⟩, ⟨by repeat (first | (with_reducible first | exact HB.out | apply below_alloc | apply pw_below_drewN | apply below_drew1) | exact HB.out)⟩⟩
      case round =>
        clear H'
        try clear c1
        try clear p2
        try clear c3
        try clear c4
        try clear c5
        try clear c5b0
        try clear c5b1
        try clear c9
        try clear c10
        obtain ⟨x7_1, x8_1, rfl, rfl, HA, HK1, HO_6, HB⟩ := hrel
        cases gk with
        | zero => exact absurd HA.out (by simp [targumlaw2_BrkWhole.l0])
        | succ k1 =>
          have H := HA.out
          clear HA
          simp only [targumlaw2_BrkWhole.l0] at H
          by_cases c11 : x8_1 < (t163.length : Int)
          · rw [if_pos c11] at H
            have c11b0 : decide (x8_1 < (t163.length : Int)) = true := decide_eq_true c11
            clear c11
            have HC12 := Aside0.mk H
            clear H
            obtain ⟨Ao13, co13, eo13⟩ := Kd.R_slice HO_6.out
            subst eo13
            go_upto_region 11 with (fail)
            go_cut [106] (fun v106 wc => ∃ (kq : Nat) (x106_11 : Bool), v106 = .bool x106_11 ∧ Aside0 (targumlaw2_BrkWhole.j1 kq a0 t162 t163 x8_1 x106_11 = some r) ∧ Aside0 (kq ≤ k1) ∧ Aside0 (Kd.R k27 27 wc w.heap.size (fun _ => True) (.slice Ao13 t163.length co13) t163) ∧ Aside0 (Below w.heap.size w wc))
            case first =>
              have H := HC12.out
              clear HC12
              by_cases c14 : 0 ≤ x8_1
              · rw [if_pos c14] at H
                have c14b0 : decide (0 ≤ x8_1) = true := decide_eq_true c14
                clear c14
                (first | rw [c14b0] | (simp only [i64_w, i32_w]; rw [c14b0]) | skip)
                by_cases c15 : ((rd_T27 t163 x8_1).f0) = x7_1
                · rw [if_pos c15] at H
                  have c15b0 : (((rd_T27 t163 x8_1).f0) == x7_1) = true := beq_iff_eq.mpr c15
                  have c15b1 : (((rd_T27 t163 x8_1).f0) != x7_1) = false := bne_eq_false_iff_eq.mpr c15
                  clear c15
                  by_cases c16 : ((rd_T27 t163 x8_1).f1) < x7_1
                  · rw [if_pos c16] at H
                    have c16b0 : decide (((rd_T27 t163 x8_1).f1) < x7_1) = true := decide_eq_true c16
                    clear c16
                    have H' := Aside0.mk H
                    clear H
                    try go_wp2
                    have n0_ := Aside0.mk (Kd.R_drew HO_6.out)
                    have n1_ := Aside0.mk (below_drew1 HB.out)
                    clear HO_6
                    clear HB
                    have HO_6 := n0_
                    have HB := n1_
                    clear n0_ n1_
                    have p167 : 0 ≤ (x8_1 : Int) := of_decide_eq_true (by first | (with_reducible assumption) | assumption)
                    have q167 : x8_1 < (t163.length : Int) := of_decide_eq_true (by first | (with_reducible assumption) | assumption)
                    obtain ⟨ad167, e167, hx167_0, hx167_1, hx167_2⟩ := at_T27 (Kd.R_reads' HO_6.out).2.2 x8_1 p167 q167
                    cases e167
                    replace p167 := eq_true p167
                    replace q167 := eq_true q167
                    have p168 : 0 ≤ (x8_1 : Int) := of_decide_eq_true (by first | (with_reducible assumption) | assumption)
                    have q168 : x8_1 < (t163.length : Int) := of_decide_eq_true (by first | (with_reducible assumption) | assumption)
                    obtain ⟨ad168, e168, hx168_0, hx168_1, hx168_2⟩ := at_T27 (Kd.R_reads' HO_6.out).2.2 x8_1 p168 q168
                    obtain rfl : ad167 = ad168 := (by injection e168)
                    replace p168 := eq_true p168
                    replace q168 := eq_true q168
                    refine start_ (n := 81) (S := fun w' => w'.cell? (ad167.add ((x8_1).toNat * 3)) = some (.int .i64 ((rd_T27 t163 x8_1).f0)) ∧ w'.cell? ⟨(ad167.add ((x8_1).toNat * 3)).block, (ad167.add ((x8_1).toNat * 3)).off + 1, none⟩ = some (.int .i64 ((rd_T27 t163 x8_1).f1)) ∧ w'.cell? ⟨(ad167.add ((x8_1).toNat * 3)).block, (ad167.add ((x8_1).toNat * 3)).off + 2, none⟩ = some (.int .i64 ((rd_T27 t163 x8_1).f2)) ∧ w'.cell? (ad167.add ((x8_1).toNat * 3)) = some (.int .i64 ((rd_T27 t163 x8_1).f0)) ∧ w'.cell? ⟨(ad167.add ((x8_1).toNat * 3)).block, (ad167.add ((x8_1).toNat * 3)).off + 1, none⟩ = some (.int .i64 ((rd_T27 t163 x8_1).f1)) ∧ w'.cell? ⟨(ad167.add ((x8_1).toNat * 3)).block, (ad167.add ((x8_1).toNat * 3)).off + 2, none⟩ = some (.int .i64 ((rd_T27 t163 x8_1).f2))) (ds := []) mk_0 (by kernel_rfl) rfl rfl ⟨hx167_0, hx167_1, hx167_2, hx168_0, hx168_1, hx168_2⟩ (fun hHeld => ?_); refine with_tabW targumlaw2_BrkWhole.tab11 targumlaw2_BrkWhole.bits11 (fun HT_ HW_ => ?_)
                    generalize wr.drew = w17 at HO_6 HB hx167_0 hx167_1 hx167_2 hx168_0 hx168_1 hx168_2 hHeld ⊢
                    refine P1 ?_ 0 26 mk_1 rfl rfl HT_.out (by kernel_rfl) (fun _ _ _ => id) (.inl ⟨by rfl, ?_⟩) ?_ ?_ ?_; rotate_left; (intro w'; go_simp; with_reducible rfl); rotate_left; (simp only [pa, List.set_cons_zero, List.set_cons_succ, i64_w, i32_w]; rfl)
                    refine P1 ?_ 1 27 mk_2 rfl rfl HT_.out (by kernel_rfl) (fun _ _ _ => id) (.inl ⟨by rfl, ?_⟩) ?_ ?_ ?_; rotate_left; (intro w'; go_simp; with_reducible rfl); rotate_left; (simp only [pa, List.set_cons_zero, List.set_cons_succ, i64_w, i32_w]; rfl)
                    refine P1 ?_ 2 28 mk_3 rfl rfl HT_.out (by kernel_rfl) (fun _ _ _ => id) (.inl ⟨by rfl, ?_⟩) ?_ ?_ ?_; rotate_left; (intro w'; go_simp; with_reducible rfl); rotate_left; (simp only [pa, List.set_cons_zero, List.set_cons_succ, i64_w, i32_w]; rfl)
                    refine P1 ?_ 3 29 mk_4 rfl rfl HT_.out (by kernel_rfl) (fun _ _ _ => id) (.inl ⟨by rfl, ?_⟩) ?_ ?_ ?_; rotate_left; (intro w'; go_simp; with_reducible rfl); rotate_left; (simp only [pa, List.set_cons_zero, List.set_cons_succ, i64_w, i32_w]; rfl)
                    refine P1 ?_ 5 31 mk_5 rfl rfl HT_.out (by kernel_rfl) (fun _ _ _ => id) (.inl ⟨by rfl, ?_⟩) ?_ ?_ ?_; rotate_left; (intro w'; go_simp; with_reducible rfl); rotate_left; (simp only [pa, List.set_cons_zero, List.set_cons_succ, i64_w, i32_w]; rfl)
                    refine T1 ?_ 4 30 mk_6 rfl rfl HT_.out HW_.out (by kernel_rfl) (fun _ _ _ => id) (.inl ⟨by rfl, ?_⟩) hHeld ?_ ?_ ?_; rotate_left; (rintro w' ⟨s0, s1, s2, s3, s4, s5⟩; go_simp; with_reducible rfl); rotate_left; (simp only [pa, List.set_cons_zero, List.set_cons_succ, i64_w, i32_w]; rfl)
                    refine P1 ?_ 6 32 mk_7 rfl rfl HT_.out (by kernel_rfl) (fun _ _ _ => id) (.inl ⟨by rfl, ?_⟩) ?_ ?_ ?_; rotate_left; (intro w'; go_simp; with_reducible rfl); rotate_left; (simp only [pa, List.set_cons_zero, List.set_cons_succ, i64_w, i32_w]; rfl)
                    refine P1 ?_ 7 33 mk_8 rfl rfl HT_.out (by kernel_rfl) (fun _ _ _ => id) (.inl ⟨by rfl, ?_⟩) ?_ ?_ ?_; rotate_left; (intro w'; go_simp; with_reducible rfl); rotate_left; (simp only [pa, List.set_cons_zero, List.set_cons_succ, i64_w, i32_w]; rfl)
                    refine P1 ?_ 8 34 mk_9 rfl rfl HT_.out (by kernel_rfl) (fun _ _ _ => id) (.inl ⟨by rfl, ?_⟩) ?_ ?_ ?_; rotate_left; (intro w'; go_simp; with_reducible rfl); rotate_left; (simp only [pa, List.set_cons_zero, List.set_cons_succ, i64_w, i32_w]; rfl)
                    refine P1 ?_ 9 35 mk_10 rfl rfl HT_.out (by kernel_rfl) (fun _ _ _ => id) (.inl ⟨by rfl, ?_⟩) ?_ ?_ ?_; rotate_left; (intro w'; go_simp; with_reducible rfl); rotate_left; (simp only [pa, List.set_cons_zero, List.set_cons_succ, i64_w, i32_w]; rfl)
                    refine P1 ?_ 10 36 mk_11 rfl rfl HT_.out (by kernel_rfl) (fun _ _ _ => id) (.inl ⟨by rfl, ?_⟩) ?_ ?_ ?_; rotate_left; (intro w'; go_simp; with_reducible rfl); rotate_left; (simp only [pa, List.set_cons_zero, List.set_cons_succ, i64_w, i32_w]; rfl)
                    refine P1 ?_ 11 37 mk_12 rfl rfl HT_.out (by kernel_rfl) (fun _ _ _ => id) (.inl ⟨by rfl, ?_⟩) ?_ ?_ ?_; rotate_left; (intro w'; go_simp; with_reducible rfl); rotate_left; (simp only [pa, List.set_cons_zero, List.set_cons_succ, i64_w, i32_w]; rfl)
                    refine P1 ?_ 13 39 mk_13 rfl rfl HT_.out (by kernel_rfl) (fun _ _ _ => id) (.inl ⟨by rfl, ?_⟩) ?_ ?_ ?_; rotate_left; (intro w'; go_simp; with_reducible rfl); rotate_left; (simp only [pa, List.set_cons_zero, List.set_cons_succ, i64_w, i32_w]; rfl)
                    refine T1 ?_ 12 38 mk_14 rfl rfl HT_.out HW_.out (by kernel_rfl) (fun _ _ _ => id) (.inl ⟨by rfl, ?_⟩) hHeld ?_ ?_ ?_; rotate_left; (rintro w' ⟨s0, s1, s2, s3, s4, s5⟩; go_simp; with_reducible rfl); rotate_left; (simp only [pa, List.set_cons_zero, List.set_cons_succ, i64_w, i32_w]; rfl)
                    refine P1 ?_ 14 40 mk_15 rfl rfl HT_.out (by kernel_rfl) (fun _ _ _ => id) (.inl ⟨by rfl, ?_⟩) ?_ ?_ ?_; rotate_left; (intro w'; go_simp; with_reducible rfl); rotate_left; (simp only [pa, List.set_cons_zero, List.set_cons_succ, i64_w, i32_w]; rfl)
                    refine P1 ?_ 15 41 mk_16 rfl rfl HT_.out (by kernel_rfl) (fun _ _ _ => id) (.inl ⟨by rfl, ?_⟩) ?_ ?_ ?_; rotate_left; (intro w'; go_simp; with_reducible rfl); rotate_left; (simp only [pa, List.set_cons_zero, List.set_cons_succ, i64_w, i32_w]; rfl)
                    refine P1 ?_ 16 42 mk_17 rfl rfl HT_.out (by kernel_rfl) (fun _ _ _ => id) (.inl ⟨by rfl, ?_⟩) ?_ ?_ ?_; rotate_left; (intro w'; go_simp; with_reducible rfl); rotate_left; (simp only [pa, List.set_cons_zero, List.set_cons_succ, i64_w, i32_w]; rfl)
                    refine P1 undef 17 43 mk_18 rfl rfl HT_.out (by kernel_rfl) (fun _ _ _ => id) (.inr ⟨by rfl, rfl⟩) ?_ ?_ ?_; rotate_left; (simp only [pa, List.set_cons_zero, List.set_cons_succ, i64_w, i32_w]; rfl)
                    refine P1 undef 18 44 mk_19 rfl rfl HT_.out (by kernel_rfl) (fun _ _ _ => id) (.inr ⟨by rfl, rfl⟩) ?_ ?_ ?_; rotate_left; (simp only [pa, List.set_cons_zero, List.set_cons_succ, i64_w, i32_w]; rfl)
                    refine P1 undef 19 45 mk_20 rfl rfl HT_.out (by kernel_rfl) (fun _ _ _ => id) (.inr ⟨by rfl, rfl⟩) ?_ ?_ ?_; rotate_left; (simp only [pa, List.set_cons_zero, List.set_cons_succ, i64_w, i32_w]; rfl)
                    refine P1 undef 20 46 mk_21 rfl rfl HT_.out (by kernel_rfl) (fun _ _ _ => id) (.inr ⟨by rfl, rfl⟩) ?_ ?_ ?_; rotate_left; (simp only [pa, List.set_cons_zero, List.set_cons_succ, i64_w, i32_w]; rfl)
                    refine P1 undef 21 47 mk_22 rfl rfl HT_.out (by kernel_rfl) (fun _ _ _ => id) (.inr ⟨by rfl, rfl⟩) ?_ ?_ ?_; rotate_left; (simp only [pa, List.set_cons_zero, List.set_cons_succ, i64_w, i32_w]; rfl)
                    refine P1 undef 22 48 mk_23 rfl rfl HT_.out (by kernel_rfl) (fun _ _ _ => id) (.inr ⟨by rfl, rfl⟩) ?_ ?_ ?_; rotate_left; (simp only [pa, List.set_cons_zero, List.set_cons_succ, i64_w, i32_w]; rfl)
                    refine P1 undef 23 49 mk_24 rfl rfl HT_.out (by kernel_rfl) (fun _ _ _ => id) (.inr ⟨by rfl, rfl⟩) ?_ ?_ ?_; rotate_left; (simp only [pa, List.set_cons_zero, List.set_cons_succ, i64_w, i32_w]; rfl)
                    refine P1 undef 24 50 mk_25 rfl rfl HT_.out (by kernel_rfl) (fun _ _ _ => id) (.inr ⟨by rfl, rfl⟩) ?_ ?_ ?_; rotate_left; (simp only [pa, List.set_cons_zero, List.set_cons_succ, i64_w, i32_w]; rfl)
                    refine P1 undef 25 51 mk_26 rfl rfl HT_.out (by kernel_rfl) (fun _ _ _ => id) (.inr ⟨by rfl, rfl⟩) ?_ ?_ ?_; rotate_left; (simp only [pa, List.set_cons_zero, List.set_cons_succ, i64_w, i32_w]; rfl)
                    refine P1 undef 26 52 mk_27 rfl rfl HT_.out (by kernel_rfl) (fun _ _ _ => id) (.inr ⟨by rfl, rfl⟩) ?_ ?_ ?_; rotate_left; (simp only [pa, List.set_cons_zero, List.set_cons_succ, i64_w, i32_w]; rfl)
                    refine P1 undef 27 53 mk_28 rfl rfl HT_.out (by kernel_rfl) (fun _ _ _ => id) (.inr ⟨by rfl, rfl⟩) ?_ ?_ ?_; rotate_left; (simp only [pa, List.set_cons_zero, List.set_cons_succ, i64_w, i32_w]; rfl)
                    refine P1 ?_ 28 54 mk_29 rfl rfl HT_.out (by kernel_rfl) (fun _ _ _ => id) (.inl ⟨by rfl, ?_⟩) ?_ ?_ ?_; rotate_left; (intro w'; go_simp; with_reducible rfl); rotate_left; (simp only [pa, List.set_cons_zero, List.set_cons_succ, i64_w, i32_w]; rfl)
                    refine P1 ?_ 29 55 mk_30 rfl rfl HT_.out (by kernel_rfl) (fun _ _ _ => id) (.inl ⟨by rfl, ?_⟩) ?_ ?_ ?_; rotate_left; (intro w'; go_simp; with_reducible rfl); rotate_left; (simp only [pa, List.set_cons_zero, List.set_cons_succ, i64_w, i32_w]; rfl)
                    refine P1 undef 30 56 mk_31 rfl rfl HT_.out (by kernel_rfl) (fun _ _ _ => id) (.inr ⟨by rfl, rfl⟩) ?_ ?_ ?_; rotate_left; (simp only [pa, List.set_cons_zero, List.set_cons_succ, i64_w, i32_w]; rfl)
                    refine P1 undef 31 57 mk_32 rfl rfl HT_.out (by kernel_rfl) (fun _ _ _ => id) (.inr ⟨by rfl, rfl⟩) ?_ ?_ ?_; rotate_left; (simp only [pa, List.set_cons_zero, List.set_cons_succ, i64_w, i32_w]; rfl)
                    refine P1 undef 32 58 mk_33 rfl rfl HT_.out (by kernel_rfl) (fun _ _ _ => id) (.inr ⟨by rfl, rfl⟩) ?_ ?_ ?_; rotate_left; (simp only [pa, List.set_cons_zero, List.set_cons_succ, i64_w, i32_w]; rfl)
                    refine P1 undef 33 59 mk_34 rfl rfl HT_.out (by kernel_rfl) (fun _ _ _ => id) (.inr ⟨by rfl, rfl⟩) ?_ ?_ ?_; rotate_left; (simp only [pa, List.set_cons_zero, List.set_cons_succ, i64_w, i32_w]; rfl)
                    refine P1 undef 34 60 mk_35 rfl rfl HT_.out (by kernel_rfl) (fun _ _ _ => id) (.inr ⟨by rfl, rfl⟩) ?_ ?_ ?_; rotate_left; (simp only [pa, List.set_cons_zero, List.set_cons_succ, i64_w, i32_w]; rfl)
                    refine P1 undef 35 61 mk_36 rfl rfl HT_.out (by kernel_rfl) (fun _ _ _ => id) (.inr ⟨by rfl, rfl⟩) ?_ ?_ ?_; rotate_left; (simp only [pa, List.set_cons_zero, List.set_cons_succ, i64_w, i32_w]; rfl)
                    refine P1 undef 36 62 mk_37 rfl rfl HT_.out (by kernel_rfl) (fun _ _ _ => id) (.inr ⟨by rfl, rfl⟩) ?_ ?_ ?_; rotate_left; (simp only [pa, List.set_cons_zero, List.set_cons_succ, i64_w, i32_w]; rfl)
                    refine P1 undef 37 63 mk_38 rfl rfl HT_.out (by kernel_rfl) (fun _ _ _ => id) (.inr ⟨by rfl, rfl⟩) ?_ ?_ ?_; rotate_left; (simp only [pa, List.set_cons_zero, List.set_cons_succ, i64_w, i32_w]; rfl)
                    refine P1 ?_ 38 64 mk_39 rfl rfl HT_.out (by kernel_rfl) (fun _ _ _ => id) (.inl ⟨by rfl, ?_⟩) ?_ ?_ ?_; rotate_left; (intro w'; go_simp; with_reducible rfl); rotate_left; (simp only [pa, List.set_cons_zero, List.set_cons_succ, i64_w, i32_w]; rfl)
                    refine P1 ?_ 39 65 mk_40 rfl rfl HT_.out (by kernel_rfl) (fun _ _ _ => id) (.inl ⟨by rfl, ?_⟩) ?_ ?_ ?_; rotate_left; (intro w'; go_simp; with_reducible rfl); rotate_left; (simp only [pa, List.set_cons_zero, List.set_cons_succ, i64_w, i32_w]; rfl)
                    refine P1 undef 40 66 mk_41 rfl rfl HT_.out (by kernel_rfl) (fun _ _ _ => id) (.inr ⟨by rfl, rfl⟩) ?_ ?_ ?_; rotate_left; (simp only [pa, List.set_cons_zero, List.set_cons_succ, i64_w, i32_w]; rfl)
                    refine P1 undef 41 67 mk_42 rfl rfl HT_.out (by kernel_rfl) (fun _ _ _ => id) (.inr ⟨by rfl, rfl⟩) ?_ ?_ ?_; rotate_left; (simp only [pa, List.set_cons_zero, List.set_cons_succ, i64_w, i32_w]; rfl)
                    refine P1 undef 42 68 mk_43 rfl rfl HT_.out (by kernel_rfl) (fun _ _ _ => id) (.inr ⟨by rfl, rfl⟩) ?_ ?_ ?_; rotate_left; (simp only [pa, List.set_cons_zero, List.set_cons_succ, i64_w, i32_w]; rfl)
                    refine P1 undef 43 69 mk_44 rfl rfl HT_.out (by kernel_rfl) (fun _ _ _ => id) (.inr ⟨by rfl, rfl⟩) ?_ ?_ ?_; rotate_left; (simp only [pa, List.set_cons_zero, List.set_cons_succ, i64_w, i32_w]; rfl)
                    refine P1 undef 44 70 mk_45 rfl rfl HT_.out (by kernel_rfl) (fun _ _ _ => id) (.inr ⟨by rfl, rfl⟩) ?_ ?_ ?_; rotate_left; (simp only [pa, List.set_cons_zero, List.set_cons_succ, i64_w, i32_w]; rfl)
                    refine P1 undef 45 71 mk_46 rfl rfl HT_.out (by kernel_rfl) (fun _ _ _ => id) (.inr ⟨by rfl, rfl⟩) ?_ ?_ ?_; rotate_left; (simp only [pa, List.set_cons_zero, List.set_cons_succ, i64_w, i32_w]; rfl)
                    refine P1 undef 46 72 mk_47 rfl rfl HT_.out (by kernel_rfl) (fun _ _ _ => id) (.inr ⟨by rfl, rfl⟩) ?_ ?_ ?_; rotate_left; (simp only [pa, List.set_cons_zero, List.set_cons_succ, i64_w, i32_w]; rfl)
                    refine P1 undef 47 73 mk_48 rfl rfl HT_.out (by kernel_rfl) (fun _ _ _ => id) (.inr ⟨by rfl, rfl⟩) ?_ ?_ ?_; rotate_left; (simp only [pa, List.set_cons_zero, List.set_cons_succ, i64_w, i32_w]; rfl)
                    refine P1 undef 48 74 mk_49 rfl rfl HT_.out (by kernel_rfl) (fun _ _ _ => id) (.inr ⟨by rfl, rfl⟩) ?_ ?_ ?_; rotate_left; (simp only [pa, List.set_cons_zero, List.set_cons_succ, i64_w, i32_w]; rfl)
                    refine P1 undef 49 75 mk_50 rfl rfl HT_.out (by kernel_rfl) (fun _ _ _ => id) (.inr ⟨by rfl, rfl⟩) ?_ ?_ ?_; rotate_left; (simp only [pa, List.set_cons_zero, List.set_cons_succ, i64_w, i32_w]; rfl)
                    refine P1 undef 50 76 mk_51 rfl rfl HT_.out (by kernel_rfl) (fun _ _ _ => id) (.inr ⟨by rfl, rfl⟩) ?_ ?_ ?_; rotate_left; (simp only [pa, List.set_cons_zero, List.set_cons_succ, i64_w, i32_w]; rfl)
                    refine P1 undef 51 77 mk_52 rfl rfl HT_.out (by kernel_rfl) (fun _ _ _ => id) (.inr ⟨by rfl, rfl⟩) ?_ ?_ ?_; rotate_left; (simp only [pa, List.set_cons_zero, List.set_cons_succ, i64_w, i32_w]; rfl)
                    refine P1 undef 52 78 mk_53 rfl rfl HT_.out (by kernel_rfl) (fun _ _ _ => id) (.inr ⟨by rfl, rfl⟩) ?_ ?_ ?_; rotate_left; (simp only [pa, List.set_cons_zero, List.set_cons_succ, i64_w, i32_w]; rfl)
                    refine P1 undef 53 79 mk_54 rfl rfl HT_.out (by kernel_rfl) (fun _ _ _ => id) (.inr ⟨by rfl, rfl⟩) ?_ ?_ ?_; rotate_left; (simp only [pa, List.set_cons_zero, List.set_cons_succ, i64_w, i32_w]; rfl)
                    refine P1 undef 54 80 mk_55 rfl rfl HT_.out (by kernel_rfl) (fun _ _ _ => id) (.inr ⟨by rfl, rfl⟩) ?_ ?_ ?_; rotate_left; (simp only [pa, List.set_cons_zero, List.set_cons_succ, i64_w, i32_w]; rfl)
                    refine P1 undef 55 81 mk_56 rfl rfl HT_.out (by kernel_rfl) (fun _ _ _ => id) (.inr ⟨by rfl, rfl⟩) ?_ ?_ ?_; rotate_left; (simp only [pa, List.set_cons_zero, List.set_cons_succ, i64_w, i32_w]; rfl)
                    refine P1 undef 56 82 mk_57 rfl rfl HT_.out (by kernel_rfl) (fun _ _ _ => id) (.inr ⟨by rfl, rfl⟩) ?_ ?_ ?_; rotate_left; (simp only [pa, List.set_cons_zero, List.set_cons_succ, i64_w, i32_w]; rfl)
                    refine P1 undef 57 83 mk_58 rfl rfl HT_.out (by kernel_rfl) (fun _ _ _ => id) (.inr ⟨by rfl, rfl⟩) ?_ ?_ ?_; rotate_left; (simp only [pa, List.set_cons_zero, List.set_cons_succ, i64_w, i32_w]; rfl)
                    refine P1 ?_ 58 84 mk_59 rfl rfl HT_.out (by kernel_rfl) (fun _ _ _ => id) (.inl ⟨by rfl, ?_⟩) ?_ ?_ ?_; rotate_left; (intro w'; go_simp; with_reducible rfl); rotate_left; (simp only [pa, List.set_cons_zero, List.set_cons_succ, i64_w, i32_w]; rfl)
                    refine P1 ?_ 59 85 mk_60 rfl rfl HT_.out (by kernel_rfl) (fun _ _ _ => id) (.inl ⟨by rfl, ?_⟩) ?_ ?_ ?_; rotate_left; (intro w'; go_simp; with_reducible rfl); rotate_left; (simp only [pa, List.set_cons_zero, List.set_cons_succ, i64_w, i32_w]; rfl)
                    refine P1 undef 60 86 mk_61 rfl rfl HT_.out (by kernel_rfl) (fun _ _ _ => id) (.inr ⟨by rfl, rfl⟩) ?_ ?_ ?_; rotate_left; (simp only [pa, List.set_cons_zero, List.set_cons_succ, i64_w, i32_w]; rfl)
                    refine P1 undef 61 87 mk_62 rfl rfl HT_.out (by kernel_rfl) (fun _ _ _ => id) (.inr ⟨by rfl, rfl⟩) ?_ ?_ ?_; rotate_left; (simp only [pa, List.set_cons_zero, List.set_cons_succ, i64_w, i32_w]; rfl)
                    refine P1 undef 62 88 mk_63 rfl rfl HT_.out (by kernel_rfl) (fun _ _ _ => id) (.inr ⟨by rfl, rfl⟩) ?_ ?_ ?_; rotate_left; (simp only [pa, List.set_cons_zero, List.set_cons_succ, i64_w, i32_w]; rfl)
                    refine P1 undef 63 89 mk_64 rfl rfl HT_.out (by kernel_rfl) (fun _ _ _ => id) (.inr ⟨by rfl, rfl⟩) ?_ ?_ ?_; rotate_left; (simp only [pa, List.set_cons_zero, List.set_cons_succ, i64_w, i32_w]; rfl)
                    refine P1 undef 64 90 mk_65 rfl rfl HT_.out (by kernel_rfl) (fun _ _ _ => id) (.inr ⟨by rfl, rfl⟩) ?_ ?_ ?_; rotate_left; (simp only [pa, List.set_cons_zero, List.set_cons_succ, i64_w, i32_w]; rfl)
                    refine P1 undef 65 91 mk_66 rfl rfl HT_.out (by kernel_rfl) (fun _ _ _ => id) (.inr ⟨by rfl, rfl⟩) ?_ ?_ ?_; rotate_left; (simp only [pa, List.set_cons_zero, List.set_cons_succ, i64_w, i32_w]; rfl)
                    refine P1 undef 66 92 mk_67 rfl rfl HT_.out (by kernel_rfl) (fun _ _ _ => id) (.inr ⟨by rfl, rfl⟩) ?_ ?_ ?_; rotate_left; (simp only [pa, List.set_cons_zero, List.set_cons_succ, i64_w, i32_w]; rfl)
                    refine P1 undef 67 93 mk_68 rfl rfl HT_.out (by kernel_rfl) (fun _ _ _ => id) (.inr ⟨by rfl, rfl⟩) ?_ ?_ ?_; rotate_left; (simp only [pa, List.set_cons_zero, List.set_cons_succ, i64_w, i32_w]; rfl)
                    refine P1 undef 68 94 mk_69 rfl rfl HT_.out (by kernel_rfl) (fun _ _ _ => id) (.inr ⟨by rfl, rfl⟩) ?_ ?_ ?_; rotate_left; (simp only [pa, List.set_cons_zero, List.set_cons_succ, i64_w, i32_w]; rfl)
                    refine P1 undef 69 95 mk_70 rfl rfl HT_.out (by kernel_rfl) (fun _ _ _ => id) (.inr ⟨by rfl, rfl⟩) ?_ ?_ ?_; rotate_left; (simp only [pa, List.set_cons_zero, List.set_cons_succ, i64_w, i32_w]; rfl)
                    refine P1 undef 70 96 mk_71 rfl rfl HT_.out (by kernel_rfl) (fun _ _ _ => id) (.inr ⟨by rfl, rfl⟩) ?_ ?_ ?_; rotate_left; (simp only [pa, List.set_cons_zero, List.set_cons_succ, i64_w, i32_w]; rfl)
                    refine P1 undef 71 97 mk_72 rfl rfl HT_.out (by kernel_rfl) (fun _ _ _ => id) (.inr ⟨by rfl, rfl⟩) ?_ ?_ ?_; rotate_left; (simp only [pa, List.set_cons_zero, List.set_cons_succ, i64_w, i32_w]; rfl)
                    refine P1 undef 72 98 mk_73 rfl rfl HT_.out (by kernel_rfl) (fun _ _ _ => id) (.inr ⟨by rfl, rfl⟩) ?_ ?_ ?_; rotate_left; (simp only [pa, List.set_cons_zero, List.set_cons_succ, i64_w, i32_w]; rfl)
                    refine P1 undef 73 99 mk_74 rfl rfl HT_.out (by kernel_rfl) (fun _ _ _ => id) (.inr ⟨by rfl, rfl⟩) ?_ ?_ ?_; rotate_left; (simp only [pa, List.set_cons_zero, List.set_cons_succ, i64_w, i32_w]; rfl)
                    refine P1 undef 74 100 mk_75 rfl rfl HT_.out (by kernel_rfl) (fun _ _ _ => id) (.inr ⟨by rfl, rfl⟩) ?_ ?_ ?_; rotate_left; (simp only [pa, List.set_cons_zero, List.set_cons_succ, i64_w, i32_w]; rfl)
                    refine P1 undef 75 101 mk_76 rfl rfl HT_.out (by kernel_rfl) (fun _ _ _ => id) (.inr ⟨by rfl, rfl⟩) ?_ ?_ ?_; rotate_left; (simp only [pa, List.set_cons_zero, List.set_cons_succ, i64_w, i32_w]; rfl)
                    refine P1 undef 76 102 mk_77 rfl rfl HT_.out (by kernel_rfl) (fun _ _ _ => id) (.inr ⟨by rfl, rfl⟩) ?_ ?_ ?_; rotate_left; (simp only [pa, List.set_cons_zero, List.set_cons_succ, i64_w, i32_w]; rfl)
                    refine P1 undef 77 103 mk_78 rfl rfl HT_.out (by kernel_rfl) (fun _ _ _ => id) (.inr ⟨by rfl, rfl⟩) ?_ ?_ ?_; rotate_left; (simp only [pa, List.set_cons_zero, List.set_cons_succ, i64_w, i32_w]; rfl)
                    refine P1 undef 78 104 mk_79 rfl rfl HT_.out (by kernel_rfl) (fun _ _ _ => id) (.inr ⟨by rfl, rfl⟩) ?_ ?_ ?_; rotate_left; (simp only [pa, List.set_cons_zero, List.set_cons_succ, i64_w, i32_w]; rfl)
                    refine P1 undef 79 105 mk_80 rfl rfl HT_.out (by kernel_rfl) (fun _ _ _ => id) (.inr ⟨by rfl, rfl⟩) ?_ ?_ ?_; rotate_left; (simp only [pa, List.set_cons_zero, List.set_cons_succ, i64_w, i32_w]; rfl)
                    refine P1 ?_ 80 106 mk_81 rfl rfl HT_.out (by kernel_rfl) (fun _ _ _ => id) (.inl ⟨by rfl, ?_⟩) ?_ ?_ ?_; rotate_left; (intro w'; go_simp; with_reducible rfl); rotate_left; (simp only [pa, List.set_cons_zero, List.set_cons_succ, i64_w, i32_w]; rfl)
                    refine done_ (done_of HT_.out (by kernel_rfl)) ?_
                    try go_wp2
                    go_meet
                    case rel => exact ⟨_, (true), (by first | rfl | (simp; done) | (simp [*]; done) | (simp [wrap64]; done)), H', ⟨by have := HK1.out; first | omega | exact Nat.le_refl _⟩, ⟨by (with_reducible repeat (first | apply Kd.R_alloc | apply Kd.R_drewN | apply Kd.R_drew)); exact HO_6.out⟩, ⟨by repeat (first | (with_reducible first | exact HB.out | apply below_alloc | apply pw_below_drewN | apply below_drew1) | exact HB.out)⟩⟩
                  · rw [if_neg c16] at H
                    have c16b0 : decide (((rd_T27 t163 x8_1).f1) < x7_1) = false := decide_eq_false c16
                    clear c16
                    by_cases c18 : ((rd_T27 t163 x8_1).f2) < ((rd_T27 t163 x8_1).f1)
                    · rw [if_pos c18] at H
                      have c18b0 : decide (((rd_T27 t163 x8_1).f2) < ((rd_T27 t163 x8_1).f1)) = true := decide_eq_true c18
                      clear c18
                      have H' := Aside0.mk H
                      clear H
                      try go_wp2
                      have n0_ := Aside0.mk (Kd.R_drew HO_6.out)
                      have n1_ := Aside0.mk (below_drew1 HB.out)
                      clear HO_6
                      clear HB
                      have HO_6 := n0_
                      have HB := n1_
                      clear n0_ n1_
                      have p167 : 0 ≤ (x8_1 : Int) := of_decide_eq_true (by first | (with_reducible assumption) | assumption)
                      have q167 : x8_1 < (t163.length : Int) := of_decide_eq_true (by first | (with_reducible assumption) | assumption)
                      obtain ⟨ad167, e167, hx167_0, hx167_1, hx167_2⟩ := at_T27 (Kd.R_reads' HO_6.out).2.2 x8_1 p167 q167
                      cases e167
                      replace p167 := eq_true p167
                      replace q167 := eq_true q167
                      have p168 : 0 ≤ (x8_1 : Int) := of_decide_eq_true (by first | (with_reducible assumption) | assumption)
                      have q168 : x8_1 < (t163.length : Int) := of_decide_eq_true (by first | (with_reducible assumption) | assumption)
                      obtain ⟨ad168, e168, hx168_0, hx168_1, hx168_2⟩ := at_T27 (Kd.R_reads' HO_6.out).2.2 x8_1 p168 q168
                      obtain rfl : ad167 = ad168 := (by injection e168)
                      replace p168 := eq_true p168
                      replace q168 := eq_true q168
                      have p169 : 0 ≤ (x8_1 : Int) := of_decide_eq_true (by first | (with_reducible assumption) | assumption)
                      have q169 : x8_1 < (t163.length : Int) := of_decide_eq_true (by first | (with_reducible assumption) | assumption)
                      obtain ⟨ad169, e169, hx169_0, hx169_1, hx169_2⟩ := at_T27 (Kd.R_reads' HO_6.out).2.2 x8_1 p169 q169
                      obtain rfl : ad167 = ad169 := (by injection e169)
                      replace p169 := eq_true p169
                      replace q169 := eq_true q169
                      have p170 : 0 ≤ (x8_1 : Int) := of_decide_eq_true (by first | (with_reducible assumption) | assumption)
                      have q170 : x8_1 < (t163.length : Int) := of_decide_eq_true (by first | (with_reducible assumption) | assumption)
                      obtain ⟨ad170, e170, hx170_0, hx170_1, hx170_2⟩ := at_T27 (Kd.R_reads' HO_6.out).2.2 x8_1 p170 q170
                      obtain rfl : ad167 = ad170 := (by injection e170)
                      replace p170 := eq_true p170
                      replace q170 := eq_true q170
                      refine start_ (n := 81) (S := fun w' => w'.cell? (ad167.add ((x8_1).toNat * 3)) = some (.int .i64 ((rd_T27 t163 x8_1).f0)) ∧ w'.cell? ⟨(ad167.add ((x8_1).toNat * 3)).block, (ad167.add ((x8_1).toNat * 3)).off + 1, none⟩ = some (.int .i64 ((rd_T27 t163 x8_1).f1)) ∧ w'.cell? ⟨(ad167.add ((x8_1).toNat * 3)).block, (ad167.add ((x8_1).toNat * 3)).off + 2, none⟩ = some (.int .i64 ((rd_T27 t163 x8_1).f2)) ∧ w'.cell? (ad167.add ((x8_1).toNat * 3)) = some (.int .i64 ((rd_T27 t163 x8_1).f0)) ∧ w'.cell? ⟨(ad167.add ((x8_1).toNat * 3)).block, (ad167.add ((x8_1).toNat * 3)).off + 1, none⟩ = some (.int .i64 ((rd_T27 t163 x8_1).f1)) ∧ w'.cell? ⟨(ad167.add ((x8_1).toNat * 3)).block, (ad167.add ((x8_1).toNat * 3)).off + 2, none⟩ = some (.int .i64 ((rd_T27 t163 x8_1).f2)) ∧ w'.cell? (ad167.add ((x8_1).toNat * 3)) = some (.int .i64 ((rd_T27 t163 x8_1).f0)) ∧ w'.cell? ⟨(ad167.add ((x8_1).toNat * 3)).block, (ad167.add ((x8_1).toNat * 3)).off + 1, none⟩ = some (.int .i64 ((rd_T27 t163 x8_1).f1)) ∧ w'.cell? ⟨(ad167.add ((x8_1).toNat * 3)).block, (ad167.add ((x8_1).toNat * 3)).off + 2, none⟩ = some (.int .i64 ((rd_T27 t163 x8_1).f2)) ∧ w'.cell? (ad167.add ((x8_1).toNat * 3)) = some (.int .i64 ((rd_T27 t163 x8_1).f0)) ∧ w'.cell? ⟨(ad167.add ((x8_1).toNat * 3)).block, (ad167.add ((x8_1).toNat * 3)).off + 1, none⟩ = some (.int .i64 ((rd_T27 t163 x8_1).f1)) ∧ w'.cell? ⟨(ad167.add ((x8_1).toNat * 3)).block, (ad167.add ((x8_1).toNat * 3)).off + 2, none⟩ = some (.int .i64 ((rd_T27 t163 x8_1).f2))) (ds := []) mk_0 (by kernel_rfl) rfl rfl ⟨hx167_0, hx167_1, hx167_2, hx168_0, hx168_1, hx168_2, hx169_0, hx169_1, hx169_2, hx170_0, hx170_1, hx170_2⟩ (fun hHeld => ?_); refine with_tabW targumlaw2_BrkWhole.tab11 targumlaw2_BrkWhole.bits11 (fun HT_ HW_ => ?_)
                      generalize wr.drew = w19 at HO_6 HB hx167_0 hx167_1 hx167_2 hx168_0 hx168_1 hx168_2 hx169_0 hx169_1 hx169_2 hx170_0 hx170_1 hx170_2 hHeld ⊢
                      refine P1 ?_ 0 26 mk_1 rfl rfl HT_.out (by kernel_rfl) (fun _ _ _ => id) (.inl ⟨by rfl, ?_⟩) ?_ ?_ ?_; rotate_left; (intro w'; go_simp; with_reducible rfl); rotate_left; (simp only [pa, List.set_cons_zero, List.set_cons_succ, i64_w, i32_w]; rfl)
                      refine P1 ?_ 1 27 mk_2 rfl rfl HT_.out (by kernel_rfl) (fun _ _ _ => id) (.inl ⟨by rfl, ?_⟩) ?_ ?_ ?_; rotate_left; (intro w'; go_simp; with_reducible rfl); rotate_left; (simp only [pa, List.set_cons_zero, List.set_cons_succ, i64_w, i32_w]; rfl)
                      refine P1 ?_ 2 28 mk_3 rfl rfl HT_.out (by kernel_rfl) (fun _ _ _ => id) (.inl ⟨by rfl, ?_⟩) ?_ ?_ ?_; rotate_left; (intro w'; go_simp; with_reducible rfl); rotate_left; (simp only [pa, List.set_cons_zero, List.set_cons_succ, i64_w, i32_w]; rfl)
                      refine P1 ?_ 3 29 mk_4 rfl rfl HT_.out (by kernel_rfl) (fun _ _ _ => id) (.inl ⟨by rfl, ?_⟩) ?_ ?_ ?_; rotate_left; (intro w'; go_simp; with_reducible rfl); rotate_left; (simp only [pa, List.set_cons_zero, List.set_cons_succ, i64_w, i32_w]; rfl)
                      refine P1 ?_ 5 31 mk_5 rfl rfl HT_.out (by kernel_rfl) (fun _ _ _ => id) (.inl ⟨by rfl, ?_⟩) ?_ ?_ ?_; rotate_left; (intro w'; go_simp; with_reducible rfl); rotate_left; (simp only [pa, List.set_cons_zero, List.set_cons_succ, i64_w, i32_w]; rfl)
                      refine T1 ?_ 4 30 mk_6 rfl rfl HT_.out HW_.out (by kernel_rfl) (fun _ _ _ => id) (.inl ⟨by rfl, ?_⟩) hHeld ?_ ?_ ?_; rotate_left; (rintro w' ⟨s0, s1, s2, s3, s4, s5, s6, s7, s8, s9, s10, s11⟩; go_simp; with_reducible rfl); rotate_left; (simp only [pa, List.set_cons_zero, List.set_cons_succ, i64_w, i32_w]; rfl)
                      refine P1 ?_ 6 32 mk_7 rfl rfl HT_.out (by kernel_rfl) (fun _ _ _ => id) (.inl ⟨by rfl, ?_⟩) ?_ ?_ ?_; rotate_left; (intro w'; go_simp; with_reducible rfl); rotate_left; (simp only [pa, List.set_cons_zero, List.set_cons_succ, i64_w, i32_w]; rfl)
                      refine P1 ?_ 7 33 mk_8 rfl rfl HT_.out (by kernel_rfl) (fun _ _ _ => id) (.inl ⟨by rfl, ?_⟩) ?_ ?_ ?_; rotate_left; (intro w'; go_simp; with_reducible rfl); rotate_left; (simp only [pa, List.set_cons_zero, List.set_cons_succ, i64_w, i32_w]; rfl)
                      refine P1 ?_ 8 34 mk_9 rfl rfl HT_.out (by kernel_rfl) (fun _ _ _ => id) (.inl ⟨by rfl, ?_⟩) ?_ ?_ ?_; rotate_left; (intro w'; go_simp; with_reducible rfl); rotate_left; (simp only [pa, List.set_cons_zero, List.set_cons_succ, i64_w, i32_w]; rfl)
                      refine P1 ?_ 9 35 mk_10 rfl rfl HT_.out (by kernel_rfl) (fun _ _ _ => id) (.inl ⟨by rfl, ?_⟩) ?_ ?_ ?_; rotate_left; (intro w'; go_simp; with_reducible rfl); rotate_left; (simp only [pa, List.set_cons_zero, List.set_cons_succ, i64_w, i32_w]; rfl)
                      refine P1 ?_ 10 36 mk_11 rfl rfl HT_.out (by kernel_rfl) (fun _ _ _ => id) (.inl ⟨by rfl, ?_⟩) ?_ ?_ ?_; rotate_left; (intro w'; go_simp; with_reducible rfl); rotate_left; (simp only [pa, List.set_cons_zero, List.set_cons_succ, i64_w, i32_w]; rfl)
                      refine P1 ?_ 11 37 mk_12 rfl rfl HT_.out (by kernel_rfl) (fun _ _ _ => id) (.inl ⟨by rfl, ?_⟩) ?_ ?_ ?_; rotate_left; (intro w'; go_simp; with_reducible rfl); rotate_left; (simp only [pa, List.set_cons_zero, List.set_cons_succ, i64_w, i32_w]; rfl)
                      refine P1 ?_ 13 39 mk_13 rfl rfl HT_.out (by kernel_rfl) (fun _ _ _ => id) (.inl ⟨by rfl, ?_⟩) ?_ ?_ ?_; rotate_left; (intro w'; go_simp; with_reducible rfl); rotate_left; (simp only [pa, List.set_cons_zero, List.set_cons_succ, i64_w, i32_w]; rfl)
                      refine T1 ?_ 12 38 mk_14 rfl rfl HT_.out HW_.out (by kernel_rfl) (fun _ _ _ => id) (.inl ⟨by rfl, ?_⟩) hHeld ?_ ?_ ?_; rotate_left; (rintro w' ⟨s0, s1, s2, s3, s4, s5, s6, s7, s8, s9, s10, s11⟩; go_simp; with_reducible rfl); rotate_left; (simp only [pa, List.set_cons_zero, List.set_cons_succ, i64_w, i32_w]; rfl)
                      refine P1 ?_ 14 40 mk_15 rfl rfl HT_.out (by kernel_rfl) (fun _ _ _ => id) (.inl ⟨by rfl, ?_⟩) ?_ ?_ ?_; rotate_left; (intro w'; go_simp; with_reducible rfl); rotate_left; (simp only [pa, List.set_cons_zero, List.set_cons_succ, i64_w, i32_w]; rfl)
                      refine P1 ?_ 15 41 mk_16 rfl rfl HT_.out (by kernel_rfl) (fun _ _ _ => id) (.inl ⟨by rfl, ?_⟩) ?_ ?_ ?_; rotate_left; (intro w'; go_simp; with_reducible rfl); rotate_left; (simp only [pa, List.set_cons_zero, List.set_cons_succ, i64_w, i32_w]; rfl)
                      refine P1 ?_ 16 42 mk_17 rfl rfl HT_.out (by kernel_rfl) (fun _ _ _ => id) (.inl ⟨by rfl, ?_⟩) ?_ ?_ ?_; rotate_left; (intro w'; go_simp; with_reducible rfl); rotate_left; (simp only [pa, List.set_cons_zero, List.set_cons_succ, i64_w, i32_w]; rfl)
                      refine P1 ?_ 17 43 mk_18 rfl rfl HT_.out (by kernel_rfl) (fun _ _ _ => id) (.inl ⟨by rfl, ?_⟩) ?_ ?_ ?_; rotate_left; (intro w'; go_simp; with_reducible rfl); rotate_left; (simp only [pa, List.set_cons_zero, List.set_cons_succ, i64_w, i32_w]; rfl)
                      refine P1 ?_ 18 44 mk_19 rfl rfl HT_.out (by kernel_rfl) (fun _ _ _ => id) (.inl ⟨by rfl, ?_⟩) ?_ ?_ ?_; rotate_left; (intro w'; go_simp; with_reducible rfl); rotate_left; (simp only [pa, List.set_cons_zero, List.set_cons_succ, i64_w, i32_w]; rfl)
                      refine P1 ?_ 19 45 mk_20 rfl rfl HT_.out (by kernel_rfl) (fun _ _ _ => id) (.inl ⟨by rfl, ?_⟩) ?_ ?_ ?_; rotate_left; (intro w'; go_simp; with_reducible rfl); rotate_left; (simp only [pa, List.set_cons_zero, List.set_cons_succ, i64_w, i32_w]; rfl)
                      refine P1 ?_ 20 46 mk_21 rfl rfl HT_.out (by kernel_rfl) (fun _ _ _ => id) (.inl ⟨by rfl, ?_⟩) ?_ ?_ ?_; rotate_left; (intro w'; go_simp; with_reducible rfl); rotate_left; (simp only [pa, List.set_cons_zero, List.set_cons_succ, i64_w, i32_w]; rfl)
                      refine P1 ?_ 22 48 mk_82 rfl rfl HT_.out (by kernel_rfl) (fun _ _ _ => id) (.inl ⟨by rfl, ?_⟩) ?_ ?_ ?_; rotate_left; (intro w'; go_simp; with_reducible rfl); rotate_left; (simp only [pa, List.set_cons_zero, List.set_cons_succ, i64_w, i32_w]; rfl)
                      refine P1 ?_ 23 49 mk_83 rfl rfl HT_.out (by kernel_rfl) (fun _ _ _ => id) (.inl ⟨by rfl, ?_⟩) ?_ ?_ ?_; rotate_left; (intro w'; go_simp; with_reducible rfl); rotate_left; (simp only [pa, List.set_cons_zero, List.set_cons_succ, i64_w, i32_w]; rfl)
                      refine P1 ?_ 24 50 mk_84 rfl rfl HT_.out (by kernel_rfl) (fun _ _ _ => id) (.inl ⟨by rfl, ?_⟩) ?_ ?_ ?_; rotate_left; (intro w'; go_simp; with_reducible rfl); rotate_left; (simp only [pa, List.set_cons_zero, List.set_cons_succ, i64_w, i32_w]; rfl)
                      refine P1 ?_ 25 51 mk_85 rfl rfl HT_.out (by kernel_rfl) (fun _ _ _ => id) (.inl ⟨by rfl, ?_⟩) ?_ ?_ ?_; rotate_left; (intro w'; go_simp; with_reducible rfl); rotate_left; (simp only [pa, List.set_cons_zero, List.set_cons_succ, i64_w, i32_w]; rfl)
                      refine T1 ?_ 21 47 mk_26 rfl rfl HT_.out HW_.out (by kernel_rfl) (fun _ _ _ => id) (.inl ⟨by rfl, ?_⟩) hHeld ?_ ?_ ?_; rotate_left; (rintro w' ⟨s0, s1, s2, s3, s4, s5, s6, s7, s8, s9, s10, s11⟩; go_simp; with_reducible rfl); rotate_left; (simp only [pa, List.set_cons_zero, List.set_cons_succ, i64_w, i32_w]; rfl)
                      refine T1 ?_ 26 52 mk_27 rfl rfl HT_.out HW_.out (by kernel_rfl) (fun _ _ _ => id) (.inl ⟨by rfl, ?_⟩) hHeld ?_ ?_ ?_; rotate_left; (rintro w' ⟨s0, s1, s2, s3, s4, s5, s6, s7, s8, s9, s10, s11⟩; go_simp; with_reducible rfl); rotate_left; (simp only [pa, List.set_cons_zero, List.set_cons_succ, i64_w, i32_w]; rfl)
                      refine P1 ?_ 27 53 mk_28 rfl rfl HT_.out (by kernel_rfl) (fun _ _ _ => id) (.inl ⟨by rfl, ?_⟩) ?_ ?_ ?_; rotate_left; (intro w'; go_simp; with_reducible rfl); rotate_left; (simp only [pa, List.set_cons_zero, List.set_cons_succ, i64_w, i32_w]; rfl)
                      refine P1 ?_ 28 54 mk_29 rfl rfl HT_.out (by kernel_rfl) (fun _ _ _ => id) (.inl ⟨by rfl, ?_⟩) ?_ ?_ ?_; rotate_left; (intro w'; go_simp; with_reducible rfl); rotate_left; (simp only [pa, List.set_cons_zero, List.set_cons_succ, i64_w, i32_w]; rfl)
                      refine P1 ?_ 29 55 mk_30 rfl rfl HT_.out (by kernel_rfl) (fun _ _ _ => id) (.inl ⟨by rfl, ?_⟩) ?_ ?_ ?_; rotate_left; (intro w'; go_simp; with_reducible rfl); rotate_left; (simp only [pa, List.set_cons_zero, List.set_cons_succ, i64_w, i32_w]; rfl)
                      refine P1 undef 30 56 mk_31 rfl rfl HT_.out (by kernel_rfl) (fun _ _ _ => id) (.inr ⟨by rfl, rfl⟩) ?_ ?_ ?_; rotate_left; (simp only [pa, List.set_cons_zero, List.set_cons_succ, i64_w, i32_w]; rfl)
                      refine P1 undef 31 57 mk_32 rfl rfl HT_.out (by kernel_rfl) (fun _ _ _ => id) (.inr ⟨by rfl, rfl⟩) ?_ ?_ ?_; rotate_left; (simp only [pa, List.set_cons_zero, List.set_cons_succ, i64_w, i32_w]; rfl)
                      refine P1 undef 32 58 mk_33 rfl rfl HT_.out (by kernel_rfl) (fun _ _ _ => id) (.inr ⟨by rfl, rfl⟩) ?_ ?_ ?_; rotate_left; (simp only [pa, List.set_cons_zero, List.set_cons_succ, i64_w, i32_w]; rfl)
                      refine P1 undef 33 59 mk_34 rfl rfl HT_.out (by kernel_rfl) (fun _ _ _ => id) (.inr ⟨by rfl, rfl⟩) ?_ ?_ ?_; rotate_left; (simp only [pa, List.set_cons_zero, List.set_cons_succ, i64_w, i32_w]; rfl)
                      refine P1 undef 34 60 mk_35 rfl rfl HT_.out (by kernel_rfl) (fun _ _ _ => id) (.inr ⟨by rfl, rfl⟩) ?_ ?_ ?_; rotate_left; (simp only [pa, List.set_cons_zero, List.set_cons_succ, i64_w, i32_w]; rfl)
                      refine P1 undef 35 61 mk_36 rfl rfl HT_.out (by kernel_rfl) (fun _ _ _ => id) (.inr ⟨by rfl, rfl⟩) ?_ ?_ ?_; rotate_left; (simp only [pa, List.set_cons_zero, List.set_cons_succ, i64_w, i32_w]; rfl)
                      refine P1 undef 36 62 mk_37 rfl rfl HT_.out (by kernel_rfl) (fun _ _ _ => id) (.inr ⟨by rfl, rfl⟩) ?_ ?_ ?_; rotate_left; (simp only [pa, List.set_cons_zero, List.set_cons_succ, i64_w, i32_w]; rfl)
                      refine P1 undef 37 63 mk_38 rfl rfl HT_.out (by kernel_rfl) (fun _ _ _ => id) (.inr ⟨by rfl, rfl⟩) ?_ ?_ ?_; rotate_left; (simp only [pa, List.set_cons_zero, List.set_cons_succ, i64_w, i32_w]; rfl)
                      refine P1 ?_ 38 64 mk_39 rfl rfl HT_.out (by kernel_rfl) (fun _ _ _ => id) (.inl ⟨by rfl, ?_⟩) ?_ ?_ ?_; rotate_left; (intro w'; go_simp; with_reducible rfl); rotate_left; (simp only [pa, List.set_cons_zero, List.set_cons_succ, i64_w, i32_w]; rfl)
                      refine P1 ?_ 39 65 mk_40 rfl rfl HT_.out (by kernel_rfl) (fun _ _ _ => id) (.inl ⟨by rfl, ?_⟩) ?_ ?_ ?_; rotate_left; (intro w'; go_simp; with_reducible rfl); rotate_left; (simp only [pa, List.set_cons_zero, List.set_cons_succ, i64_w, i32_w]; rfl)
                      refine P1 undef 40 66 mk_41 rfl rfl HT_.out (by kernel_rfl) (fun _ _ _ => id) (.inr ⟨by rfl, rfl⟩) ?_ ?_ ?_; rotate_left; (simp only [pa, List.set_cons_zero, List.set_cons_succ, i64_w, i32_w]; rfl)
                      refine P1 undef 41 67 mk_42 rfl rfl HT_.out (by kernel_rfl) (fun _ _ _ => id) (.inr ⟨by rfl, rfl⟩) ?_ ?_ ?_; rotate_left; (simp only [pa, List.set_cons_zero, List.set_cons_succ, i64_w, i32_w]; rfl)
                      refine P1 undef 42 68 mk_43 rfl rfl HT_.out (by kernel_rfl) (fun _ _ _ => id) (.inr ⟨by rfl, rfl⟩) ?_ ?_ ?_; rotate_left; (simp only [pa, List.set_cons_zero, List.set_cons_succ, i64_w, i32_w]; rfl)
                      refine P1 undef 43 69 mk_44 rfl rfl HT_.out (by kernel_rfl) (fun _ _ _ => id) (.inr ⟨by rfl, rfl⟩) ?_ ?_ ?_; rotate_left; (simp only [pa, List.set_cons_zero, List.set_cons_succ, i64_w, i32_w]; rfl)
                      refine P1 undef 44 70 mk_45 rfl rfl HT_.out (by kernel_rfl) (fun _ _ _ => id) (.inr ⟨by rfl, rfl⟩) ?_ ?_ ?_; rotate_left; (simp only [pa, List.set_cons_zero, List.set_cons_succ, i64_w, i32_w]; rfl)
                      refine P1 undef 45 71 mk_46 rfl rfl HT_.out (by kernel_rfl) (fun _ _ _ => id) (.inr ⟨by rfl, rfl⟩) ?_ ?_ ?_; rotate_left; (simp only [pa, List.set_cons_zero, List.set_cons_succ, i64_w, i32_w]; rfl)
                      refine P1 undef 46 72 mk_47 rfl rfl HT_.out (by kernel_rfl) (fun _ _ _ => id) (.inr ⟨by rfl, rfl⟩) ?_ ?_ ?_; rotate_left; (simp only [pa, List.set_cons_zero, List.set_cons_succ, i64_w, i32_w]; rfl)
                      refine P1 undef 47 73 mk_48 rfl rfl HT_.out (by kernel_rfl) (fun _ _ _ => id) (.inr ⟨by rfl, rfl⟩) ?_ ?_ ?_; rotate_left; (simp only [pa, List.set_cons_zero, List.set_cons_succ, i64_w, i32_w]; rfl)
                      refine P1 undef 48 74 mk_49 rfl rfl HT_.out (by kernel_rfl) (fun _ _ _ => id) (.inr ⟨by rfl, rfl⟩) ?_ ?_ ?_; rotate_left; (simp only [pa, List.set_cons_zero, List.set_cons_succ, i64_w, i32_w]; rfl)
                      refine P1 undef 49 75 mk_50 rfl rfl HT_.out (by kernel_rfl) (fun _ _ _ => id) (.inr ⟨by rfl, rfl⟩) ?_ ?_ ?_; rotate_left; (simp only [pa, List.set_cons_zero, List.set_cons_succ, i64_w, i32_w]; rfl)
                      refine P1 undef 50 76 mk_51 rfl rfl HT_.out (by kernel_rfl) (fun _ _ _ => id) (.inr ⟨by rfl, rfl⟩) ?_ ?_ ?_; rotate_left; (simp only [pa, List.set_cons_zero, List.set_cons_succ, i64_w, i32_w]; rfl)
                      refine P1 undef 51 77 mk_52 rfl rfl HT_.out (by kernel_rfl) (fun _ _ _ => id) (.inr ⟨by rfl, rfl⟩) ?_ ?_ ?_; rotate_left; (simp only [pa, List.set_cons_zero, List.set_cons_succ, i64_w, i32_w]; rfl)
                      refine P1 undef 52 78 mk_53 rfl rfl HT_.out (by kernel_rfl) (fun _ _ _ => id) (.inr ⟨by rfl, rfl⟩) ?_ ?_ ?_; rotate_left; (simp only [pa, List.set_cons_zero, List.set_cons_succ, i64_w, i32_w]; rfl)
                      refine P1 undef 53 79 mk_54 rfl rfl HT_.out (by kernel_rfl) (fun _ _ _ => id) (.inr ⟨by rfl, rfl⟩) ?_ ?_ ?_; rotate_left; (simp only [pa, List.set_cons_zero, List.set_cons_succ, i64_w, i32_w]; rfl)
                      refine P1 undef 54 80 mk_55 rfl rfl HT_.out (by kernel_rfl) (fun _ _ _ => id) (.inr ⟨by rfl, rfl⟩) ?_ ?_ ?_; rotate_left; (simp only [pa, List.set_cons_zero, List.set_cons_succ, i64_w, i32_w]; rfl)
                      refine P1 undef 55 81 mk_56 rfl rfl HT_.out (by kernel_rfl) (fun _ _ _ => id) (.inr ⟨by rfl, rfl⟩) ?_ ?_ ?_; rotate_left; (simp only [pa, List.set_cons_zero, List.set_cons_succ, i64_w, i32_w]; rfl)
                      refine P1 undef 56 82 mk_57 rfl rfl HT_.out (by kernel_rfl) (fun _ _ _ => id) (.inr ⟨by rfl, rfl⟩) ?_ ?_ ?_; rotate_left; (simp only [pa, List.set_cons_zero, List.set_cons_succ, i64_w, i32_w]; rfl)
                      refine P1 undef 57 83 mk_58 rfl rfl HT_.out (by kernel_rfl) (fun _ _ _ => id) (.inr ⟨by rfl, rfl⟩) ?_ ?_ ?_; rotate_left; (simp only [pa, List.set_cons_zero, List.set_cons_succ, i64_w, i32_w]; rfl)
                      refine P1 ?_ 58 84 mk_59 rfl rfl HT_.out (by kernel_rfl) (fun _ _ _ => id) (.inl ⟨by rfl, ?_⟩) ?_ ?_ ?_; rotate_left; (intro w'; go_simp; with_reducible rfl); rotate_left; (simp only [pa, List.set_cons_zero, List.set_cons_succ, i64_w, i32_w]; rfl)
                      refine P1 ?_ 59 85 mk_60 rfl rfl HT_.out (by kernel_rfl) (fun _ _ _ => id) (.inl ⟨by rfl, ?_⟩) ?_ ?_ ?_; rotate_left; (intro w'; go_simp; with_reducible rfl); rotate_left; (simp only [pa, List.set_cons_zero, List.set_cons_succ, i64_w, i32_w]; rfl)
                      refine P1 undef 60 86 mk_61 rfl rfl HT_.out (by kernel_rfl) (fun _ _ _ => id) (.inr ⟨by rfl, rfl⟩) ?_ ?_ ?_; rotate_left; (simp only [pa, List.set_cons_zero, List.set_cons_succ, i64_w, i32_w]; rfl)
                      refine P1 undef 61 87 mk_62 rfl rfl HT_.out (by kernel_rfl) (fun _ _ _ => id) (.inr ⟨by rfl, rfl⟩) ?_ ?_ ?_; rotate_left; (simp only [pa, List.set_cons_zero, List.set_cons_succ, i64_w, i32_w]; rfl)
                      refine P1 undef 62 88 mk_63 rfl rfl HT_.out (by kernel_rfl) (fun _ _ _ => id) (.inr ⟨by rfl, rfl⟩) ?_ ?_ ?_; rotate_left; (simp only [pa, List.set_cons_zero, List.set_cons_succ, i64_w, i32_w]; rfl)
                      refine P1 undef 63 89 mk_64 rfl rfl HT_.out (by kernel_rfl) (fun _ _ _ => id) (.inr ⟨by rfl, rfl⟩) ?_ ?_ ?_; rotate_left; (simp only [pa, List.set_cons_zero, List.set_cons_succ, i64_w, i32_w]; rfl)
                      refine P1 undef 64 90 mk_65 rfl rfl HT_.out (by kernel_rfl) (fun _ _ _ => id) (.inr ⟨by rfl, rfl⟩) ?_ ?_ ?_; rotate_left; (simp only [pa, List.set_cons_zero, List.set_cons_succ, i64_w, i32_w]; rfl)
                      refine P1 undef 65 91 mk_66 rfl rfl HT_.out (by kernel_rfl) (fun _ _ _ => id) (.inr ⟨by rfl, rfl⟩) ?_ ?_ ?_; rotate_left; (simp only [pa, List.set_cons_zero, List.set_cons_succ, i64_w, i32_w]; rfl)
                      refine P1 undef 66 92 mk_67 rfl rfl HT_.out (by kernel_rfl) (fun _ _ _ => id) (.inr ⟨by rfl, rfl⟩) ?_ ?_ ?_; rotate_left; (simp only [pa, List.set_cons_zero, List.set_cons_succ, i64_w, i32_w]; rfl)
                      refine P1 undef 67 93 mk_68 rfl rfl HT_.out (by kernel_rfl) (fun _ _ _ => id) (.inr ⟨by rfl, rfl⟩) ?_ ?_ ?_; rotate_left; (simp only [pa, List.set_cons_zero, List.set_cons_succ, i64_w, i32_w]; rfl)
                      refine P1 undef 68 94 mk_69 rfl rfl HT_.out (by kernel_rfl) (fun _ _ _ => id) (.inr ⟨by rfl, rfl⟩) ?_ ?_ ?_; rotate_left; (simp only [pa, List.set_cons_zero, List.set_cons_succ, i64_w, i32_w]; rfl)
                      refine P1 undef 69 95 mk_70 rfl rfl HT_.out (by kernel_rfl) (fun _ _ _ => id) (.inr ⟨by rfl, rfl⟩) ?_ ?_ ?_; rotate_left; (simp only [pa, List.set_cons_zero, List.set_cons_succ, i64_w, i32_w]; rfl)
                      refine P1 undef 70 96 mk_71 rfl rfl HT_.out (by kernel_rfl) (fun _ _ _ => id) (.inr ⟨by rfl, rfl⟩) ?_ ?_ ?_; rotate_left; (simp only [pa, List.set_cons_zero, List.set_cons_succ, i64_w, i32_w]; rfl)
                      refine P1 undef 71 97 mk_72 rfl rfl HT_.out (by kernel_rfl) (fun _ _ _ => id) (.inr ⟨by rfl, rfl⟩) ?_ ?_ ?_; rotate_left; (simp only [pa, List.set_cons_zero, List.set_cons_succ, i64_w, i32_w]; rfl)
                      refine P1 undef 72 98 mk_73 rfl rfl HT_.out (by kernel_rfl) (fun _ _ _ => id) (.inr ⟨by rfl, rfl⟩) ?_ ?_ ?_; rotate_left; (simp only [pa, List.set_cons_zero, List.set_cons_succ, i64_w, i32_w]; rfl)
                      refine P1 undef 73 99 mk_74 rfl rfl HT_.out (by kernel_rfl) (fun _ _ _ => id) (.inr ⟨by rfl, rfl⟩) ?_ ?_ ?_; rotate_left; (simp only [pa, List.set_cons_zero, List.set_cons_succ, i64_w, i32_w]; rfl)
                      refine P1 undef 74 100 mk_75 rfl rfl HT_.out (by kernel_rfl) (fun _ _ _ => id) (.inr ⟨by rfl, rfl⟩) ?_ ?_ ?_; rotate_left; (simp only [pa, List.set_cons_zero, List.set_cons_succ, i64_w, i32_w]; rfl)
                      refine P1 undef 75 101 mk_76 rfl rfl HT_.out (by kernel_rfl) (fun _ _ _ => id) (.inr ⟨by rfl, rfl⟩) ?_ ?_ ?_; rotate_left; (simp only [pa, List.set_cons_zero, List.set_cons_succ, i64_w, i32_w]; rfl)
                      refine P1 undef 76 102 mk_77 rfl rfl HT_.out (by kernel_rfl) (fun _ _ _ => id) (.inr ⟨by rfl, rfl⟩) ?_ ?_ ?_; rotate_left; (simp only [pa, List.set_cons_zero, List.set_cons_succ, i64_w, i32_w]; rfl)
                      refine P1 undef 77 103 mk_78 rfl rfl HT_.out (by kernel_rfl) (fun _ _ _ => id) (.inr ⟨by rfl, rfl⟩) ?_ ?_ ?_; rotate_left; (simp only [pa, List.set_cons_zero, List.set_cons_succ, i64_w, i32_w]; rfl)
                      refine P1 undef 78 104 mk_79 rfl rfl HT_.out (by kernel_rfl) (fun _ _ _ => id) (.inr ⟨by rfl, rfl⟩) ?_ ?_ ?_; rotate_left; (simp only [pa, List.set_cons_zero, List.set_cons_succ, i64_w, i32_w]; rfl)
                      refine P1 undef 79 105 mk_80 rfl rfl HT_.out (by kernel_rfl) (fun _ _ _ => id) (.inr ⟨by rfl, rfl⟩) ?_ ?_ ?_; rotate_left; (simp only [pa, List.set_cons_zero, List.set_cons_succ, i64_w, i32_w]; rfl)
                      refine P1 ?_ 80 106 mk_81 rfl rfl HT_.out (by kernel_rfl) (fun _ _ _ => id) (.inl ⟨by rfl, ?_⟩) ?_ ?_ ?_; rotate_left; (intro w'; go_simp; with_reducible rfl); rotate_left; (simp only [pa, List.set_cons_zero, List.set_cons_succ, i64_w, i32_w]; rfl)
                      refine done_ (done_of HT_.out (by kernel_rfl)) ?_
                      try go_wp2
                      go_meet
                      case rel => exact ⟨_, (true), (by first | rfl | (simp; done) | (simp [*]; done) | (simp [wrap64]; done)), H', ⟨by have := HK1.out; first | omega | exact Nat.le_refl _⟩, ⟨by (with_reducible repeat (first | apply Kd.R_alloc | apply Kd.R_drewN | apply Kd.R_drew)); exact HO_6.out⟩, ⟨by repeat (first | (with_reducible first | exact HB.out | apply below_alloc | apply pw_below_drewN | apply below_drew1) | exact HB.out)⟩⟩
                    · rw [if_neg c18] at H
                      have c18b0 : decide (((rd_T27 t163 x8_1).f2) < ((rd_T27 t163 x8_1).f1)) = false := decide_eq_false c18
                      clear c18
                      by_cases c20 : ((rd_T27 t163 x8_1).f2) > (a0.size : Int)
                      · rw [if_pos c20] at H
                        have c20b0 : decide ((a0.size : Int) < ((rd_T27 t163 x8_1).f2)) = true := decide_eq_true c20
                        clear c20
                        have H' := Aside0.mk H
                        clear H
                        try go_wp2
                        have n0_ := Aside0.mk (Kd.R_drew HO_6.out)
                        have n1_ := Aside0.mk (below_drew1 HB.out)
                        clear HO_6
                        clear HB
                        have HO_6 := n0_
                        have HB := n1_
                        clear n0_ n1_
                        have p167 : 0 ≤ (x8_1 : Int) := of_decide_eq_true (by first | (with_reducible assumption) | assumption)
                        have q167 : x8_1 < (t163.length : Int) := of_decide_eq_true (by first | (with_reducible assumption) | assumption)
                        obtain ⟨ad167, e167, hx167_0, hx167_1, hx167_2⟩ := at_T27 (Kd.R_reads' HO_6.out).2.2 x8_1 p167 q167
                        cases e167
                        replace p167 := eq_true p167
                        replace q167 := eq_true q167
                        have p168 : 0 ≤ (x8_1 : Int) := of_decide_eq_true (by first | (with_reducible assumption) | assumption)
                        have q168 : x8_1 < (t163.length : Int) := of_decide_eq_true (by first | (with_reducible assumption) | assumption)
                        obtain ⟨ad168, e168, hx168_0, hx168_1, hx168_2⟩ := at_T27 (Kd.R_reads' HO_6.out).2.2 x8_1 p168 q168
                        obtain rfl : ad167 = ad168 := (by injection e168)
                        replace p168 := eq_true p168
                        replace q168 := eq_true q168
                        have p169 : 0 ≤ (x8_1 : Int) := of_decide_eq_true (by first | (with_reducible assumption) | assumption)
                        have q169 : x8_1 < (t163.length : Int) := of_decide_eq_true (by first | (with_reducible assumption) | assumption)
                        obtain ⟨ad169, e169, hx169_0, hx169_1, hx169_2⟩ := at_T27 (Kd.R_reads' HO_6.out).2.2 x8_1 p169 q169
                        obtain rfl : ad167 = ad169 := (by injection e169)
                        replace p169 := eq_true p169
                        replace q169 := eq_true q169
                        have p170 : 0 ≤ (x8_1 : Int) := of_decide_eq_true (by first | (with_reducible assumption) | assumption)
                        have q170 : x8_1 < (t163.length : Int) := of_decide_eq_true (by first | (with_reducible assumption) | assumption)
                        obtain ⟨ad170, e170, hx170_0, hx170_1, hx170_2⟩ := at_T27 (Kd.R_reads' HO_6.out).2.2 x8_1 p170 q170
                        obtain rfl : ad167 = ad170 := (by injection e170)
                        replace p170 := eq_true p170
                        replace q170 := eq_true q170
                        have p171 : 0 ≤ (x8_1 : Int) := of_decide_eq_true (by first | (with_reducible assumption) | assumption)
                        have q171 : x8_1 < (t163.length : Int) := of_decide_eq_true (by first | (with_reducible assumption) | assumption)
                        obtain ⟨ad171, e171, hx171_0, hx171_1, hx171_2⟩ := at_T27 (Kd.R_reads' HO_6.out).2.2 x8_1 p171 q171
                        obtain rfl : ad167 = ad171 := (by injection e171)
                        replace p171 := eq_true p171
                        replace q171 := eq_true q171
                        refine start_ (n := 81) (S := fun w' => w'.cell? (ad167.add ((x8_1).toNat * 3)) = some (.int .i64 ((rd_T27 t163 x8_1).f0)) ∧ w'.cell? ⟨(ad167.add ((x8_1).toNat * 3)).block, (ad167.add ((x8_1).toNat * 3)).off + 1, none⟩ = some (.int .i64 ((rd_T27 t163 x8_1).f1)) ∧ w'.cell? ⟨(ad167.add ((x8_1).toNat * 3)).block, (ad167.add ((x8_1).toNat * 3)).off + 2, none⟩ = some (.int .i64 ((rd_T27 t163 x8_1).f2)) ∧ w'.cell? (ad167.add ((x8_1).toNat * 3)) = some (.int .i64 ((rd_T27 t163 x8_1).f0)) ∧ w'.cell? ⟨(ad167.add ((x8_1).toNat * 3)).block, (ad167.add ((x8_1).toNat * 3)).off + 1, none⟩ = some (.int .i64 ((rd_T27 t163 x8_1).f1)) ∧ w'.cell? ⟨(ad167.add ((x8_1).toNat * 3)).block, (ad167.add ((x8_1).toNat * 3)).off + 2, none⟩ = some (.int .i64 ((rd_T27 t163 x8_1).f2)) ∧ w'.cell? (ad167.add ((x8_1).toNat * 3)) = some (.int .i64 ((rd_T27 t163 x8_1).f0)) ∧ w'.cell? ⟨(ad167.add ((x8_1).toNat * 3)).block, (ad167.add ((x8_1).toNat * 3)).off + 1, none⟩ = some (.int .i64 ((rd_T27 t163 x8_1).f1)) ∧ w'.cell? ⟨(ad167.add ((x8_1).toNat * 3)).block, (ad167.add ((x8_1).toNat * 3)).off + 2, none⟩ = some (.int .i64 ((rd_T27 t163 x8_1).f2)) ∧ w'.cell? (ad167.add ((x8_1).toNat * 3)) = some (.int .i64 ((rd_T27 t163 x8_1).f0)) ∧ w'.cell? ⟨(ad167.add ((x8_1).toNat * 3)).block, (ad167.add ((x8_1).toNat * 3)).off + 1, none⟩ = some (.int .i64 ((rd_T27 t163 x8_1).f1)) ∧ w'.cell? ⟨(ad167.add ((x8_1).toNat * 3)).block, (ad167.add ((x8_1).toNat * 3)).off + 2, none⟩ = some (.int .i64 ((rd_T27 t163 x8_1).f2)) ∧ w'.cell? (ad167.add ((x8_1).toNat * 3)) = some (.int .i64 ((rd_T27 t163 x8_1).f0)) ∧ w'.cell? ⟨(ad167.add ((x8_1).toNat * 3)).block, (ad167.add ((x8_1).toNat * 3)).off + 1, none⟩ = some (.int .i64 ((rd_T27 t163 x8_1).f1)) ∧ w'.cell? ⟨(ad167.add ((x8_1).toNat * 3)).block, (ad167.add ((x8_1).toNat * 3)).off + 2, none⟩ = some (.int .i64 ((rd_T27 t163 x8_1).f2))) (ds := []) mk_0 (by kernel_rfl) rfl rfl ⟨hx167_0, hx167_1, hx167_2, hx168_0, hx168_1, hx168_2, hx169_0, hx169_1, hx169_2, hx170_0, hx170_1, hx170_2, hx171_0, hx171_1, hx171_2⟩ (fun hHeld => ?_); refine with_tabW targumlaw2_BrkWhole.tab11 targumlaw2_BrkWhole.bits11 (fun HT_ HW_ => ?_)
                        generalize wr.drew = w21 at HO_6 HB hx167_0 hx167_1 hx167_2 hx168_0 hx168_1 hx168_2 hx169_0 hx169_1 hx169_2 hx170_0 hx170_1 hx170_2 hx171_0 hx171_1 hx171_2 hHeld ⊢
                        refine P1 ?_ 0 26 mk_1 rfl rfl HT_.out (by kernel_rfl) (fun _ _ _ => id) (.inl ⟨by rfl, ?_⟩) ?_ ?_ ?_; rotate_left; (intro w'; go_simp; with_reducible rfl); rotate_left; (simp only [pa, List.set_cons_zero, List.set_cons_succ, i64_w, i32_w]; rfl)
                        refine P1 ?_ 1 27 mk_2 rfl rfl HT_.out (by kernel_rfl) (fun _ _ _ => id) (.inl ⟨by rfl, ?_⟩) ?_ ?_ ?_; rotate_left; (intro w'; go_simp; with_reducible rfl); rotate_left; (simp only [pa, List.set_cons_zero, List.set_cons_succ, i64_w, i32_w]; rfl)
                        refine P1 ?_ 2 28 mk_3 rfl rfl HT_.out (by kernel_rfl) (fun _ _ _ => id) (.inl ⟨by rfl, ?_⟩) ?_ ?_ ?_; rotate_left; (intro w'; go_simp; with_reducible rfl); rotate_left; (simp only [pa, List.set_cons_zero, List.set_cons_succ, i64_w, i32_w]; rfl)
                        refine P1 ?_ 3 29 mk_4 rfl rfl HT_.out (by kernel_rfl) (fun _ _ _ => id) (.inl ⟨by rfl, ?_⟩) ?_ ?_ ?_; rotate_left; (intro w'; go_simp; with_reducible rfl); rotate_left; (simp only [pa, List.set_cons_zero, List.set_cons_succ, i64_w, i32_w]; rfl)
                        refine P1 ?_ 5 31 mk_5 rfl rfl HT_.out (by kernel_rfl) (fun _ _ _ => id) (.inl ⟨by rfl, ?_⟩) ?_ ?_ ?_; rotate_left; (intro w'; go_simp; with_reducible rfl); rotate_left; (simp only [pa, List.set_cons_zero, List.set_cons_succ, i64_w, i32_w]; rfl)
                        refine T1 ?_ 4 30 mk_6 rfl rfl HT_.out HW_.out (by kernel_rfl) (fun _ _ _ => id) (.inl ⟨by rfl, ?_⟩) hHeld ?_ ?_ ?_; rotate_left; (rintro w' ⟨s0, s1, s2, s3, s4, s5, s6, s7, s8, s9, s10, s11, s12, s13, s14⟩; go_simp; with_reducible rfl); rotate_left; (simp only [pa, List.set_cons_zero, List.set_cons_succ, i64_w, i32_w]; rfl)
                        refine P1 ?_ 6 32 mk_7 rfl rfl HT_.out (by kernel_rfl) (fun _ _ _ => id) (.inl ⟨by rfl, ?_⟩) ?_ ?_ ?_; rotate_left; (intro w'; go_simp; with_reducible rfl); rotate_left; (simp only [pa, List.set_cons_zero, List.set_cons_succ, i64_w, i32_w]; rfl)
                        refine P1 ?_ 7 33 mk_8 rfl rfl HT_.out (by kernel_rfl) (fun _ _ _ => id) (.inl ⟨by rfl, ?_⟩) ?_ ?_ ?_; rotate_left; (intro w'; go_simp; with_reducible rfl); rotate_left; (simp only [pa, List.set_cons_zero, List.set_cons_succ, i64_w, i32_w]; rfl)
                        refine P1 ?_ 8 34 mk_9 rfl rfl HT_.out (by kernel_rfl) (fun _ _ _ => id) (.inl ⟨by rfl, ?_⟩) ?_ ?_ ?_; rotate_left; (intro w'; go_simp; with_reducible rfl); rotate_left; (simp only [pa, List.set_cons_zero, List.set_cons_succ, i64_w, i32_w]; rfl)
                        refine P1 ?_ 9 35 mk_10 rfl rfl HT_.out (by kernel_rfl) (fun _ _ _ => id) (.inl ⟨by rfl, ?_⟩) ?_ ?_ ?_; rotate_left; (intro w'; go_simp; with_reducible rfl); rotate_left; (simp only [pa, List.set_cons_zero, List.set_cons_succ, i64_w, i32_w]; rfl)
                        refine P1 ?_ 10 36 mk_11 rfl rfl HT_.out (by kernel_rfl) (fun _ _ _ => id) (.inl ⟨by rfl, ?_⟩) ?_ ?_ ?_; rotate_left; (intro w'; go_simp; with_reducible rfl); rotate_left; (simp only [pa, List.set_cons_zero, List.set_cons_succ, i64_w, i32_w]; rfl)
                        refine P1 ?_ 11 37 mk_12 rfl rfl HT_.out (by kernel_rfl) (fun _ _ _ => id) (.inl ⟨by rfl, ?_⟩) ?_ ?_ ?_; rotate_left; (intro w'; go_simp; with_reducible rfl); rotate_left; (simp only [pa, List.set_cons_zero, List.set_cons_succ, i64_w, i32_w]; rfl)
                        refine P1 ?_ 13 39 mk_13 rfl rfl HT_.out (by kernel_rfl) (fun _ _ _ => id) (.inl ⟨by rfl, ?_⟩) ?_ ?_ ?_; rotate_left; (intro w'; go_simp; with_reducible rfl); rotate_left; (simp only [pa, List.set_cons_zero, List.set_cons_succ, i64_w, i32_w]; rfl)
                        refine T1 ?_ 12 38 mk_14 rfl rfl HT_.out HW_.out (by kernel_rfl) (fun _ _ _ => id) (.inl ⟨by rfl, ?_⟩) hHeld ?_ ?_ ?_; rotate_left; (rintro w' ⟨s0, s1, s2, s3, s4, s5, s6, s7, s8, s9, s10, s11, s12, s13, s14⟩; go_simp; with_reducible rfl); rotate_left; (simp only [pa, List.set_cons_zero, List.set_cons_succ, i64_w, i32_w]; rfl)
                        refine P1 ?_ 14 40 mk_15 rfl rfl HT_.out (by kernel_rfl) (fun _ _ _ => id) (.inl ⟨by rfl, ?_⟩) ?_ ?_ ?_; rotate_left; (intro w'; go_simp; with_reducible rfl); rotate_left; (simp only [pa, List.set_cons_zero, List.set_cons_succ, i64_w, i32_w]; rfl)
                        refine P1 ?_ 15 41 mk_16 rfl rfl HT_.out (by kernel_rfl) (fun _ _ _ => id) (.inl ⟨by rfl, ?_⟩) ?_ ?_ ?_; rotate_left; (intro w'; go_simp; with_reducible rfl); rotate_left; (simp only [pa, List.set_cons_zero, List.set_cons_succ, i64_w, i32_w]; rfl)
                        refine P1 ?_ 16 42 mk_17 rfl rfl HT_.out (by kernel_rfl) (fun _ _ _ => id) (.inl ⟨by rfl, ?_⟩) ?_ ?_ ?_; rotate_left; (intro w'; go_simp; with_reducible rfl); rotate_left; (simp only [pa, List.set_cons_zero, List.set_cons_succ, i64_w, i32_w]; rfl)
                        refine P1 ?_ 17 43 mk_18 rfl rfl HT_.out (by kernel_rfl) (fun _ _ _ => id) (.inl ⟨by rfl, ?_⟩) ?_ ?_ ?_; rotate_left; (intro w'; go_simp; with_reducible rfl); rotate_left; (simp only [pa, List.set_cons_zero, List.set_cons_succ, i64_w, i32_w]; rfl)
                        refine P1 ?_ 18 44 mk_19 rfl rfl HT_.out (by kernel_rfl) (fun _ _ _ => id) (.inl ⟨by rfl, ?_⟩) ?_ ?_ ?_; rotate_left; (intro w'; go_simp; with_reducible rfl); rotate_left; (simp only [pa, List.set_cons_zero, List.set_cons_succ, i64_w, i32_w]; rfl)
                        refine P1 ?_ 19 45 mk_20 rfl rfl HT_.out (by kernel_rfl) (fun _ _ _ => id) (.inl ⟨by rfl, ?_⟩) ?_ ?_ ?_; rotate_left; (intro w'; go_simp; with_reducible rfl); rotate_left; (simp only [pa, List.set_cons_zero, List.set_cons_succ, i64_w, i32_w]; rfl)
                        refine P1 ?_ 20 46 mk_21 rfl rfl HT_.out (by kernel_rfl) (fun _ _ _ => id) (.inl ⟨by rfl, ?_⟩) ?_ ?_ ?_; rotate_left; (intro w'; go_simp; with_reducible rfl); rotate_left; (simp only [pa, List.set_cons_zero, List.set_cons_succ, i64_w, i32_w]; rfl)
                        refine P1 ?_ 22 48 mk_82 rfl rfl HT_.out (by kernel_rfl) (fun _ _ _ => id) (.inl ⟨by rfl, ?_⟩) ?_ ?_ ?_; rotate_left; (intro w'; go_simp; with_reducible rfl); rotate_left; (simp only [pa, List.set_cons_zero, List.set_cons_succ, i64_w, i32_w]; rfl)
                        refine P1 ?_ 23 49 mk_83 rfl rfl HT_.out (by kernel_rfl) (fun _ _ _ => id) (.inl ⟨by rfl, ?_⟩) ?_ ?_ ?_; rotate_left; (intro w'; go_simp; with_reducible rfl); rotate_left; (simp only [pa, List.set_cons_zero, List.set_cons_succ, i64_w, i32_w]; rfl)
                        refine P1 ?_ 24 50 mk_84 rfl rfl HT_.out (by kernel_rfl) (fun _ _ _ => id) (.inl ⟨by rfl, ?_⟩) ?_ ?_ ?_; rotate_left; (intro w'; go_simp; with_reducible rfl); rotate_left; (simp only [pa, List.set_cons_zero, List.set_cons_succ, i64_w, i32_w]; rfl)
                        refine P1 ?_ 25 51 mk_85 rfl rfl HT_.out (by kernel_rfl) (fun _ _ _ => id) (.inl ⟨by rfl, ?_⟩) ?_ ?_ ?_; rotate_left; (intro w'; go_simp; with_reducible rfl); rotate_left; (simp only [pa, List.set_cons_zero, List.set_cons_succ, i64_w, i32_w]; rfl)
                        refine T1 ?_ 21 47 mk_26 rfl rfl HT_.out HW_.out (by kernel_rfl) (fun _ _ _ => id) (.inl ⟨by rfl, ?_⟩) hHeld ?_ ?_ ?_; rotate_left; (rintro w' ⟨s0, s1, s2, s3, s4, s5, s6, s7, s8, s9, s10, s11, s12, s13, s14⟩; go_simp; with_reducible rfl); rotate_left; (simp only [pa, List.set_cons_zero, List.set_cons_succ, i64_w, i32_w]; rfl)
                        refine T1 ?_ 26 52 mk_27 rfl rfl HT_.out HW_.out (by kernel_rfl) (fun _ _ _ => id) (.inl ⟨by rfl, ?_⟩) hHeld ?_ ?_ ?_; rotate_left; (rintro w' ⟨s0, s1, s2, s3, s4, s5, s6, s7, s8, s9, s10, s11, s12, s13, s14⟩; go_simp; with_reducible rfl); rotate_left; (simp only [pa, List.set_cons_zero, List.set_cons_succ, i64_w, i32_w]; rfl)
                        refine P1 ?_ 27 53 mk_28 rfl rfl HT_.out (by kernel_rfl) (fun _ _ _ => id) (.inl ⟨by rfl, ?_⟩) ?_ ?_ ?_; rotate_left; (intro w'; go_simp; with_reducible rfl); rotate_left; (simp only [pa, List.set_cons_zero, List.set_cons_succ, i64_w, i32_w]; rfl)
                        refine P1 ?_ 28 54 mk_29 rfl rfl HT_.out (by kernel_rfl) (fun _ _ _ => id) (.inl ⟨by rfl, ?_⟩) ?_ ?_ ?_; rotate_left; (intro w'; go_simp; with_reducible rfl); rotate_left; (simp only [pa, List.set_cons_zero, List.set_cons_succ, i64_w, i32_w]; rfl)
                        refine P1 ?_ 29 55 mk_30 rfl rfl HT_.out (by kernel_rfl) (fun _ _ _ => id) (.inl ⟨by rfl, ?_⟩) ?_ ?_ ?_; rotate_left; (intro w'; go_simp; with_reducible rfl); rotate_left; (simp only [pa, List.set_cons_zero, List.set_cons_succ, i64_w, i32_w]; rfl)
                        refine P1 ?_ 30 56 mk_31 rfl rfl HT_.out (by kernel_rfl) (fun _ _ _ => id) (.inl ⟨by rfl, ?_⟩) ?_ ?_ ?_; rotate_left; (intro w'; go_simp; with_reducible rfl); rotate_left; (simp only [pa, List.set_cons_zero, List.set_cons_succ, i64_w, i32_w]; rfl)
                        refine P1 ?_ 31 57 mk_32 rfl rfl HT_.out (by kernel_rfl) (fun _ _ _ => id) (.inl ⟨by rfl, ?_⟩) ?_ ?_ ?_; rotate_left; (intro w'; go_simp; with_reducible rfl); rotate_left; (simp only [pa, List.set_cons_zero, List.set_cons_succ, i64_w, i32_w]; rfl)
                        refine P1 ?_ 32 58 mk_33 rfl rfl HT_.out (by kernel_rfl) (fun _ _ _ => id) (.inl ⟨by rfl, ?_⟩) ?_ ?_ ?_; rotate_left; (intro w'; go_simp; with_reducible rfl); rotate_left; (simp only [pa, List.set_cons_zero, List.set_cons_succ, i64_w, i32_w]; rfl)
                        refine P1 ?_ 33 59 mk_34 rfl rfl HT_.out (by kernel_rfl) (fun _ _ _ => id) (.inl ⟨by rfl, ?_⟩) ?_ ?_ ?_; rotate_left; (intro w'; go_simp; with_reducible rfl); rotate_left; (simp only [pa, List.set_cons_zero, List.set_cons_succ, i64_w, i32_w]; rfl)
                        refine P1 ?_ 35 61 mk_86 rfl rfl HT_.out (by kernel_rfl) (fun _ _ _ => id) (.inl ⟨by rfl, ?_⟩) ?_ ?_ ?_; rotate_left; (intro w'; go_simp; with_reducible rfl); rotate_left; (simp only [pa, List.set_cons_zero, List.set_cons_succ, i64_w, i32_w]; rfl)
                        refine P1 ?_ 36 62 mk_87 rfl rfl HT_.out (by kernel_rfl) (fun _ _ _ => id) (.inl ⟨by rfl, ?_⟩) ?_ ?_ ?_; rotate_left; (intro w'; go_simp; with_reducible rfl); rotate_left; (simp only [pa, List.set_cons_zero, List.set_cons_succ, i64_w, i32_w]; rfl)
                        refine T1 ?_ 34 60 mk_37 rfl rfl HT_.out HW_.out (by kernel_rfl) (fun _ _ _ => id) (.inl ⟨by rfl, ?_⟩) hHeld ?_ ?_ ?_; rotate_left; (rintro w' ⟨s0, s1, s2, s3, s4, s5, s6, s7, s8, s9, s10, s11, s12, s13, s14⟩; go_simp; with_reducible rfl); rotate_left; (simp only [pa, List.set_cons_zero, List.set_cons_succ, i64_w, i32_w]; rfl)
                        refine P1 ?_ 37 63 mk_38 rfl rfl HT_.out (by kernel_rfl) (fun _ _ _ => id) (.inl ⟨by rfl, ?_⟩) ?_ ?_ ?_; rotate_left; (intro w'; go_simp; with_reducible rfl); rotate_left; (simp only [pa, List.set_cons_zero, List.set_cons_succ, i64_w, i32_w]; rfl)
                        refine P1 ?_ 38 64 mk_39 rfl rfl HT_.out (by kernel_rfl) (fun _ _ _ => id) (.inl ⟨by rfl, ?_⟩) ?_ ?_ ?_; rotate_left; (intro w'; go_simp; with_reducible rfl); rotate_left; (simp only [pa, List.set_cons_zero, List.set_cons_succ, i64_w, i32_w]; rfl)
                        refine P1 ?_ 39 65 mk_40 rfl rfl HT_.out (by kernel_rfl) (fun _ _ _ => id) (.inl ⟨by rfl, ?_⟩) ?_ ?_ ?_; rotate_left; (intro w'; go_simp; with_reducible rfl); rotate_left; (simp only [pa, List.set_cons_zero, List.set_cons_succ, i64_w, i32_w]; rfl)
                        refine P1 undef 40 66 mk_41 rfl rfl HT_.out (by kernel_rfl) (fun _ _ _ => id) (.inr ⟨by rfl, rfl⟩) ?_ ?_ ?_; rotate_left; (simp only [pa, List.set_cons_zero, List.set_cons_succ, i64_w, i32_w]; rfl)
                        refine P1 undef 41 67 mk_42 rfl rfl HT_.out (by kernel_rfl) (fun _ _ _ => id) (.inr ⟨by rfl, rfl⟩) ?_ ?_ ?_; rotate_left; (simp only [pa, List.set_cons_zero, List.set_cons_succ, i64_w, i32_w]; rfl)
                        refine P1 undef 42 68 mk_43 rfl rfl HT_.out (by kernel_rfl) (fun _ _ _ => id) (.inr ⟨by rfl, rfl⟩) ?_ ?_ ?_; rotate_left; (simp only [pa, List.set_cons_zero, List.set_cons_succ, i64_w, i32_w]; rfl)
                        refine P1 undef 43 69 mk_44 rfl rfl HT_.out (by kernel_rfl) (fun _ _ _ => id) (.inr ⟨by rfl, rfl⟩) ?_ ?_ ?_; rotate_left; (simp only [pa, List.set_cons_zero, List.set_cons_succ, i64_w, i32_w]; rfl)
                        refine P1 undef 44 70 mk_45 rfl rfl HT_.out (by kernel_rfl) (fun _ _ _ => id) (.inr ⟨by rfl, rfl⟩) ?_ ?_ ?_; rotate_left; (simp only [pa, List.set_cons_zero, List.set_cons_succ, i64_w, i32_w]; rfl)
                        refine P1 undef 45 71 mk_46 rfl rfl HT_.out (by kernel_rfl) (fun _ _ _ => id) (.inr ⟨by rfl, rfl⟩) ?_ ?_ ?_; rotate_left; (simp only [pa, List.set_cons_zero, List.set_cons_succ, i64_w, i32_w]; rfl)
                        refine P1 undef 46 72 mk_47 rfl rfl HT_.out (by kernel_rfl) (fun _ _ _ => id) (.inr ⟨by rfl, rfl⟩) ?_ ?_ ?_; rotate_left; (simp only [pa, List.set_cons_zero, List.set_cons_succ, i64_w, i32_w]; rfl)
                        refine P1 undef 47 73 mk_48 rfl rfl HT_.out (by kernel_rfl) (fun _ _ _ => id) (.inr ⟨by rfl, rfl⟩) ?_ ?_ ?_; rotate_left; (simp only [pa, List.set_cons_zero, List.set_cons_succ, i64_w, i32_w]; rfl)
                        refine P1 undef 48 74 mk_49 rfl rfl HT_.out (by kernel_rfl) (fun _ _ _ => id) (.inr ⟨by rfl, rfl⟩) ?_ ?_ ?_; rotate_left; (simp only [pa, List.set_cons_zero, List.set_cons_succ, i64_w, i32_w]; rfl)
                        refine P1 undef 49 75 mk_50 rfl rfl HT_.out (by kernel_rfl) (fun _ _ _ => id) (.inr ⟨by rfl, rfl⟩) ?_ ?_ ?_; rotate_left; (simp only [pa, List.set_cons_zero, List.set_cons_succ, i64_w, i32_w]; rfl)
                        refine P1 undef 50 76 mk_51 rfl rfl HT_.out (by kernel_rfl) (fun _ _ _ => id) (.inr ⟨by rfl, rfl⟩) ?_ ?_ ?_; rotate_left; (simp only [pa, List.set_cons_zero, List.set_cons_succ, i64_w, i32_w]; rfl)
                        refine P1 undef 51 77 mk_52 rfl rfl HT_.out (by kernel_rfl) (fun _ _ _ => id) (.inr ⟨by rfl, rfl⟩) ?_ ?_ ?_; rotate_left; (simp only [pa, List.set_cons_zero, List.set_cons_succ, i64_w, i32_w]; rfl)
                        refine P1 undef 52 78 mk_53 rfl rfl HT_.out (by kernel_rfl) (fun _ _ _ => id) (.inr ⟨by rfl, rfl⟩) ?_ ?_ ?_; rotate_left; (simp only [pa, List.set_cons_zero, List.set_cons_succ, i64_w, i32_w]; rfl)
                        refine P1 undef 53 79 mk_54 rfl rfl HT_.out (by kernel_rfl) (fun _ _ _ => id) (.inr ⟨by rfl, rfl⟩) ?_ ?_ ?_; rotate_left; (simp only [pa, List.set_cons_zero, List.set_cons_succ, i64_w, i32_w]; rfl)
                        refine P1 undef 54 80 mk_55 rfl rfl HT_.out (by kernel_rfl) (fun _ _ _ => id) (.inr ⟨by rfl, rfl⟩) ?_ ?_ ?_; rotate_left; (simp only [pa, List.set_cons_zero, List.set_cons_succ, i64_w, i32_w]; rfl)
                        refine P1 undef 55 81 mk_56 rfl rfl HT_.out (by kernel_rfl) (fun _ _ _ => id) (.inr ⟨by rfl, rfl⟩) ?_ ?_ ?_; rotate_left; (simp only [pa, List.set_cons_zero, List.set_cons_succ, i64_w, i32_w]; rfl)
                        refine P1 undef 56 82 mk_57 rfl rfl HT_.out (by kernel_rfl) (fun _ _ _ => id) (.inr ⟨by rfl, rfl⟩) ?_ ?_ ?_; rotate_left; (simp only [pa, List.set_cons_zero, List.set_cons_succ, i64_w, i32_w]; rfl)
                        refine P1 undef 57 83 mk_58 rfl rfl HT_.out (by kernel_rfl) (fun _ _ _ => id) (.inr ⟨by rfl, rfl⟩) ?_ ?_ ?_; rotate_left; (simp only [pa, List.set_cons_zero, List.set_cons_succ, i64_w, i32_w]; rfl)
                        refine P1 ?_ 58 84 mk_59 rfl rfl HT_.out (by kernel_rfl) (fun _ _ _ => id) (.inl ⟨by rfl, ?_⟩) ?_ ?_ ?_; rotate_left; (intro w'; go_simp; with_reducible rfl); rotate_left; (simp only [pa, List.set_cons_zero, List.set_cons_succ, i64_w, i32_w]; rfl)
                        refine P1 ?_ 59 85 mk_60 rfl rfl HT_.out (by kernel_rfl) (fun _ _ _ => id) (.inl ⟨by rfl, ?_⟩) ?_ ?_ ?_; rotate_left; (intro w'; go_simp; with_reducible rfl); rotate_left; (simp only [pa, List.set_cons_zero, List.set_cons_succ, i64_w, i32_w]; rfl)
                        refine P1 undef 60 86 mk_61 rfl rfl HT_.out (by kernel_rfl) (fun _ _ _ => id) (.inr ⟨by rfl, rfl⟩) ?_ ?_ ?_; rotate_left; (simp only [pa, List.set_cons_zero, List.set_cons_succ, i64_w, i32_w]; rfl)
                        refine P1 undef 61 87 mk_62 rfl rfl HT_.out (by kernel_rfl) (fun _ _ _ => id) (.inr ⟨by rfl, rfl⟩) ?_ ?_ ?_; rotate_left; (simp only [pa, List.set_cons_zero, List.set_cons_succ, i64_w, i32_w]; rfl)
                        refine P1 undef 62 88 mk_63 rfl rfl HT_.out (by kernel_rfl) (fun _ _ _ => id) (.inr ⟨by rfl, rfl⟩) ?_ ?_ ?_; rotate_left; (simp only [pa, List.set_cons_zero, List.set_cons_succ, i64_w, i32_w]; rfl)
                        refine P1 undef 63 89 mk_64 rfl rfl HT_.out (by kernel_rfl) (fun _ _ _ => id) (.inr ⟨by rfl, rfl⟩) ?_ ?_ ?_; rotate_left; (simp only [pa, List.set_cons_zero, List.set_cons_succ, i64_w, i32_w]; rfl)
                        refine P1 undef 64 90 mk_65 rfl rfl HT_.out (by kernel_rfl) (fun _ _ _ => id) (.inr ⟨by rfl, rfl⟩) ?_ ?_ ?_; rotate_left; (simp only [pa, List.set_cons_zero, List.set_cons_succ, i64_w, i32_w]; rfl)
                        refine P1 undef 65 91 mk_66 rfl rfl HT_.out (by kernel_rfl) (fun _ _ _ => id) (.inr ⟨by rfl, rfl⟩) ?_ ?_ ?_; rotate_left; (simp only [pa, List.set_cons_zero, List.set_cons_succ, i64_w, i32_w]; rfl)
                        refine P1 undef 66 92 mk_67 rfl rfl HT_.out (by kernel_rfl) (fun _ _ _ => id) (.inr ⟨by rfl, rfl⟩) ?_ ?_ ?_; rotate_left; (simp only [pa, List.set_cons_zero, List.set_cons_succ, i64_w, i32_w]; rfl)
                        refine P1 undef 67 93 mk_68 rfl rfl HT_.out (by kernel_rfl) (fun _ _ _ => id) (.inr ⟨by rfl, rfl⟩) ?_ ?_ ?_; rotate_left; (simp only [pa, List.set_cons_zero, List.set_cons_succ, i64_w, i32_w]; rfl)
                        refine P1 undef 68 94 mk_69 rfl rfl HT_.out (by kernel_rfl) (fun _ _ _ => id) (.inr ⟨by rfl, rfl⟩) ?_ ?_ ?_; rotate_left; (simp only [pa, List.set_cons_zero, List.set_cons_succ, i64_w, i32_w]; rfl)
                        refine P1 undef 69 95 mk_70 rfl rfl HT_.out (by kernel_rfl) (fun _ _ _ => id) (.inr ⟨by rfl, rfl⟩) ?_ ?_ ?_; rotate_left; (simp only [pa, List.set_cons_zero, List.set_cons_succ, i64_w, i32_w]; rfl)
                        refine P1 undef 70 96 mk_71 rfl rfl HT_.out (by kernel_rfl) (fun _ _ _ => id) (.inr ⟨by rfl, rfl⟩) ?_ ?_ ?_; rotate_left; (simp only [pa, List.set_cons_zero, List.set_cons_succ, i64_w, i32_w]; rfl)
                        refine P1 undef 71 97 mk_72 rfl rfl HT_.out (by kernel_rfl) (fun _ _ _ => id) (.inr ⟨by rfl, rfl⟩) ?_ ?_ ?_; rotate_left; (simp only [pa, List.set_cons_zero, List.set_cons_succ, i64_w, i32_w]; rfl)
                        refine P1 undef 72 98 mk_73 rfl rfl HT_.out (by kernel_rfl) (fun _ _ _ => id) (.inr ⟨by rfl, rfl⟩) ?_ ?_ ?_; rotate_left; (simp only [pa, List.set_cons_zero, List.set_cons_succ, i64_w, i32_w]; rfl)
                        refine P1 undef 73 99 mk_74 rfl rfl HT_.out (by kernel_rfl) (fun _ _ _ => id) (.inr ⟨by rfl, rfl⟩) ?_ ?_ ?_; rotate_left; (simp only [pa, List.set_cons_zero, List.set_cons_succ, i64_w, i32_w]; rfl)
                        refine P1 undef 74 100 mk_75 rfl rfl HT_.out (by kernel_rfl) (fun _ _ _ => id) (.inr ⟨by rfl, rfl⟩) ?_ ?_ ?_; rotate_left; (simp only [pa, List.set_cons_zero, List.set_cons_succ, i64_w, i32_w]; rfl)
                        refine P1 undef 75 101 mk_76 rfl rfl HT_.out (by kernel_rfl) (fun _ _ _ => id) (.inr ⟨by rfl, rfl⟩) ?_ ?_ ?_; rotate_left; (simp only [pa, List.set_cons_zero, List.set_cons_succ, i64_w, i32_w]; rfl)
                        refine P1 undef 76 102 mk_77 rfl rfl HT_.out (by kernel_rfl) (fun _ _ _ => id) (.inr ⟨by rfl, rfl⟩) ?_ ?_ ?_; rotate_left; (simp only [pa, List.set_cons_zero, List.set_cons_succ, i64_w, i32_w]; rfl)
                        refine P1 undef 77 103 mk_78 rfl rfl HT_.out (by kernel_rfl) (fun _ _ _ => id) (.inr ⟨by rfl, rfl⟩) ?_ ?_ ?_; rotate_left; (simp only [pa, List.set_cons_zero, List.set_cons_succ, i64_w, i32_w]; rfl)
                        refine P1 undef 78 104 mk_79 rfl rfl HT_.out (by kernel_rfl) (fun _ _ _ => id) (.inr ⟨by rfl, rfl⟩) ?_ ?_ ?_; rotate_left; (simp only [pa, List.set_cons_zero, List.set_cons_succ, i64_w, i32_w]; rfl)
                        refine P1 undef 79 105 mk_80 rfl rfl HT_.out (by kernel_rfl) (fun _ _ _ => id) (.inr ⟨by rfl, rfl⟩) ?_ ?_ ?_; rotate_left; (simp only [pa, List.set_cons_zero, List.set_cons_succ, i64_w, i32_w]; rfl)
                        refine P1 ?_ 80 106 mk_81 rfl rfl HT_.out (by kernel_rfl) (fun _ _ _ => id) (.inl ⟨by rfl, ?_⟩) ?_ ?_ ?_; rotate_left; (intro w'; go_simp; with_reducible rfl); rotate_left; (simp only [pa, List.set_cons_zero, List.set_cons_succ, i64_w, i32_w]; rfl)
                        refine done_ (done_of HT_.out (by kernel_rfl)) ?_
                        try go_wp2
                        go_meet
                        case rel => exact ⟨_, (true), (by first | rfl | (simp; done) | (simp [*]; done) | (simp [wrap64]; done)), H', ⟨by have := HK1.out; first | omega | exact Nat.le_refl _⟩, ⟨by (with_reducible repeat (first | apply Kd.R_alloc | apply Kd.R_drewN | apply Kd.R_drew)); exact HO_6.out⟩, ⟨by repeat (first | (with_reducible first | exact HB.out | apply below_alloc | apply pw_below_drewN | apply below_drew1) | exact HB.out)⟩⟩
                      · rw [if_neg c20] at H
                        have c20b0 : decide ((a0.size : Int) < ((rd_T27 t163 x8_1).f2)) = false := decide_eq_false c20
                        clear c20
                        by_cases c22 : ((rd_T27 t163 x8_1).f2) = ((rd_T27 t163 x8_1).f1)
                        · rw [if_pos c22] at H
                          have c22b0 : (((rd_T27 t163 x8_1).f2) == ((rd_T27 t163 x8_1).f1)) = true := beq_iff_eq.mpr c22
                          have c22b1 : (((rd_T27 t163 x8_1).f2) != ((rd_T27 t163 x8_1).f1)) = false := bne_eq_false_iff_eq.mpr c22
                          clear c22
                          by_cases c23 : x8_1 < (wrap64 ((t163.length : Int) - 1))
                          · rw [if_pos c23] at H
                            have c23b0 : decide (x8_1 < (wrap64 ((t163.length : Int) - 1))) = true := decide_eq_true c23
                            clear c23
                            have H' := Aside0.mk H
                            clear H
                            try go_wp2
                            have n0_ := Aside0.mk (Kd.R_drew HO_6.out)
                            have n1_ := Aside0.mk (below_drew1 HB.out)
                            clear HO_6
                            clear HB
                            have HO_6 := n0_
                            have HB := n1_
                            clear n0_ n1_
                            have p167 : 0 ≤ (x8_1 : Int) := of_decide_eq_true (by first | (with_reducible assumption) | assumption)
                            have q167 : x8_1 < (t163.length : Int) := of_decide_eq_true (by first | (with_reducible assumption) | assumption)
                            obtain ⟨ad167, e167, hx167_0, hx167_1, hx167_2⟩ := at_T27 (Kd.R_reads' HO_6.out).2.2 x8_1 p167 q167
                            cases e167
                            replace p167 := eq_true p167
                            replace q167 := eq_true q167
                            have p168 : 0 ≤ (x8_1 : Int) := of_decide_eq_true (by first | (with_reducible assumption) | assumption)
                            have q168 : x8_1 < (t163.length : Int) := of_decide_eq_true (by first | (with_reducible assumption) | assumption)
                            obtain ⟨ad168, e168, hx168_0, hx168_1, hx168_2⟩ := at_T27 (Kd.R_reads' HO_6.out).2.2 x8_1 p168 q168
                            obtain rfl : ad167 = ad168 := (by injection e168)
                            replace p168 := eq_true p168
                            replace q168 := eq_true q168
                            have p169 : 0 ≤ (x8_1 : Int) := of_decide_eq_true (by first | (with_reducible assumption) | assumption)
                            have q169 : x8_1 < (t163.length : Int) := of_decide_eq_true (by first | (with_reducible assumption) | assumption)
                            obtain ⟨ad169, e169, hx169_0, hx169_1, hx169_2⟩ := at_T27 (Kd.R_reads' HO_6.out).2.2 x8_1 p169 q169
                            obtain rfl : ad167 = ad169 := (by injection e169)
                            replace p169 := eq_true p169
                            replace q169 := eq_true q169
                            have p170 : 0 ≤ (x8_1 : Int) := of_decide_eq_true (by first | (with_reducible assumption) | assumption)
                            have q170 : x8_1 < (t163.length : Int) := of_decide_eq_true (by first | (with_reducible assumption) | assumption)
                            obtain ⟨ad170, e170, hx170_0, hx170_1, hx170_2⟩ := at_T27 (Kd.R_reads' HO_6.out).2.2 x8_1 p170 q170
                            obtain rfl : ad167 = ad170 := (by injection e170)
                            replace p170 := eq_true p170
                            replace q170 := eq_true q170
                            have p171 : 0 ≤ (x8_1 : Int) := of_decide_eq_true (by first | (with_reducible assumption) | assumption)
                            have q171 : x8_1 < (t163.length : Int) := of_decide_eq_true (by first | (with_reducible assumption) | assumption)
                            obtain ⟨ad171, e171, hx171_0, hx171_1, hx171_2⟩ := at_T27 (Kd.R_reads' HO_6.out).2.2 x8_1 p171 q171
                            obtain rfl : ad167 = ad171 := (by injection e171)
                            replace p171 := eq_true p171
                            replace q171 := eq_true q171
                            have p172 : 0 ≤ (x8_1 : Int) := of_decide_eq_true (by first | (with_reducible assumption) | assumption)
                            have q172 : x8_1 < (t163.length : Int) := of_decide_eq_true (by first | (with_reducible assumption) | assumption)
                            obtain ⟨ad172, e172, hx172_0, hx172_1, hx172_2⟩ := at_T27 (Kd.R_reads' HO_6.out).2.2 x8_1 p172 q172
                            obtain rfl : ad167 = ad172 := (by injection e172)
                            replace p172 := eq_true p172
                            replace q172 := eq_true q172
                            have p173 : 0 ≤ (x8_1 : Int) := of_decide_eq_true (by first | (with_reducible assumption) | assumption)
                            have q173 : x8_1 < (t163.length : Int) := of_decide_eq_true (by first | (with_reducible assumption) | assumption)
                            obtain ⟨ad173, e173, hx173_0, hx173_1, hx173_2⟩ := at_T27 (Kd.R_reads' HO_6.out).2.2 x8_1 p173 q173
                            obtain rfl : ad167 = ad173 := (by injection e173)
                            replace p173 := eq_true p173
                            replace q173 := eq_true q173
                            refine start_ (n := 81) (S := fun w' => w'.cell? (ad167.add ((x8_1).toNat * 3)) = some (.int .i64 ((rd_T27 t163 x8_1).f0)) ∧ w'.cell? ⟨(ad167.add ((x8_1).toNat * 3)).block, (ad167.add ((x8_1).toNat * 3)).off + 1, none⟩ = some (.int .i64 ((rd_T27 t163 x8_1).f1)) ∧ w'.cell? ⟨(ad167.add ((x8_1).toNat * 3)).block, (ad167.add ((x8_1).toNat * 3)).off + 2, none⟩ = some (.int .i64 ((rd_T27 t163 x8_1).f2)) ∧ w'.cell? (ad167.add ((x8_1).toNat * 3)) = some (.int .i64 ((rd_T27 t163 x8_1).f0)) ∧ w'.cell? ⟨(ad167.add ((x8_1).toNat * 3)).block, (ad167.add ((x8_1).toNat * 3)).off + 1, none⟩ = some (.int .i64 ((rd_T27 t163 x8_1).f1)) ∧ w'.cell? ⟨(ad167.add ((x8_1).toNat * 3)).block, (ad167.add ((x8_1).toNat * 3)).off + 2, none⟩ = some (.int .i64 ((rd_T27 t163 x8_1).f2)) ∧ w'.cell? (ad167.add ((x8_1).toNat * 3)) = some (.int .i64 ((rd_T27 t163 x8_1).f0)) ∧ w'.cell? ⟨(ad167.add ((x8_1).toNat * 3)).block, (ad167.add ((x8_1).toNat * 3)).off + 1, none⟩ = some (.int .i64 ((rd_T27 t163 x8_1).f1)) ∧ w'.cell? ⟨(ad167.add ((x8_1).toNat * 3)).block, (ad167.add ((x8_1).toNat * 3)).off + 2, none⟩ = some (.int .i64 ((rd_T27 t163 x8_1).f2)) ∧ w'.cell? (ad167.add ((x8_1).toNat * 3)) = some (.int .i64 ((rd_T27 t163 x8_1).f0)) ∧ w'.cell? ⟨(ad167.add ((x8_1).toNat * 3)).block, (ad167.add ((x8_1).toNat * 3)).off + 1, none⟩ = some (.int .i64 ((rd_T27 t163 x8_1).f1)) ∧ w'.cell? ⟨(ad167.add ((x8_1).toNat * 3)).block, (ad167.add ((x8_1).toNat * 3)).off + 2, none⟩ = some (.int .i64 ((rd_T27 t163 x8_1).f2)) ∧ w'.cell? (ad167.add ((x8_1).toNat * 3)) = some (.int .i64 ((rd_T27 t163 x8_1).f0)) ∧ w'.cell? ⟨(ad167.add ((x8_1).toNat * 3)).block, (ad167.add ((x8_1).toNat * 3)).off + 1, none⟩ = some (.int .i64 ((rd_T27 t163 x8_1).f1)) ∧ w'.cell? ⟨(ad167.add ((x8_1).toNat * 3)).block, (ad167.add ((x8_1).toNat * 3)).off + 2, none⟩ = some (.int .i64 ((rd_T27 t163 x8_1).f2)) ∧ w'.cell? (ad167.add ((x8_1).toNat * 3)) = some (.int .i64 ((rd_T27 t163 x8_1).f0)) ∧ w'.cell? ⟨(ad167.add ((x8_1).toNat * 3)).block, (ad167.add ((x8_1).toNat * 3)).off + 1, none⟩ = some (.int .i64 ((rd_T27 t163 x8_1).f1)) ∧ w'.cell? ⟨(ad167.add ((x8_1).toNat * 3)).block, (ad167.add ((x8_1).toNat * 3)).off + 2, none⟩ = some (.int .i64 ((rd_T27 t163 x8_1).f2)) ∧ w'.cell? (ad167.add ((x8_1).toNat * 3)) = some (.int .i64 ((rd_T27 t163 x8_1).f0)) ∧ w'.cell? ⟨(ad167.add ((x8_1).toNat * 3)).block, (ad167.add ((x8_1).toNat * 3)).off + 1, none⟩ = some (.int .i64 ((rd_T27 t163 x8_1).f1)) ∧ w'.cell? ⟨(ad167.add ((x8_1).toNat * 3)).block, (ad167.add ((x8_1).toNat * 3)).off + 2, none⟩ = some (.int .i64 ((rd_T27 t163 x8_1).f2))) (ds := []) mk_0 (by kernel_rfl) rfl rfl ⟨hx167_0, hx167_1, hx167_2, hx168_0, hx168_1, hx168_2, hx169_0, hx169_1, hx169_2, hx170_0, hx170_1, hx170_2, hx171_0, hx171_1, hx171_2, hx172_0, hx172_1, hx172_2, hx173_0, hx173_1, hx173_2⟩ (fun hHeld => ?_); refine with_tabW targumlaw2_BrkWhole.tab11 targumlaw2_BrkWhole.bits11 (fun HT_ HW_ => ?_)
                            generalize wr.drew = w24 at HO_6 HB hx167_0 hx167_1 hx167_2 hx168_0 hx168_1 hx168_2 hx169_0 hx169_1 hx169_2 hx170_0 hx170_1 hx170_2 hx171_0 hx171_1 hx171_2 hx172_0 hx172_1 hx172_2 hx173_0 hx173_1 hx173_2 hHeld ⊢
                            refine P1 ?_ 0 26 mk_1 rfl rfl HT_.out (by kernel_rfl) (fun _ _ _ => id) (.inl ⟨by rfl, ?_⟩) ?_ ?_ ?_; rotate_left; (intro w'; go_simp; with_reducible rfl); rotate_left; (simp only [pa, List.set_cons_zero, List.set_cons_succ, i64_w, i32_w]; rfl)
                            refine P1 ?_ 1 27 mk_2 rfl rfl HT_.out (by kernel_rfl) (fun _ _ _ => id) (.inl ⟨by rfl, ?_⟩) ?_ ?_ ?_; rotate_left; (intro w'; go_simp; with_reducible rfl); rotate_left; (simp only [pa, List.set_cons_zero, List.set_cons_succ, i64_w, i32_w]; rfl)
                            refine P1 ?_ 2 28 mk_3 rfl rfl HT_.out (by kernel_rfl) (fun _ _ _ => id) (.inl ⟨by rfl, ?_⟩) ?_ ?_ ?_; rotate_left; (intro w'; go_simp; with_reducible rfl); rotate_left; (simp only [pa, List.set_cons_zero, List.set_cons_succ, i64_w, i32_w]; rfl)
                            refine P1 ?_ 3 29 mk_4 rfl rfl HT_.out (by kernel_rfl) (fun _ _ _ => id) (.inl ⟨by rfl, ?_⟩) ?_ ?_ ?_; rotate_left; (intro w'; go_simp; with_reducible rfl); rotate_left; (simp only [pa, List.set_cons_zero, List.set_cons_succ, i64_w, i32_w]; rfl)
                            refine P1 ?_ 5 31 mk_5 rfl rfl HT_.out (by kernel_rfl) (fun _ _ _ => id) (.inl ⟨by rfl, ?_⟩) ?_ ?_ ?_; rotate_left; (intro w'; go_simp; with_reducible rfl); rotate_left; (simp only [pa, List.set_cons_zero, List.set_cons_succ, i64_w, i32_w]; rfl)
                            refine T1 ?_ 4 30 mk_6 rfl rfl HT_.out HW_.out (by kernel_rfl) (fun _ _ _ => id) (.inl ⟨by rfl, ?_⟩) hHeld ?_ ?_ ?_; rotate_left; (rintro w' ⟨s0, s1, s2, s3, s4, s5, s6, s7, s8, s9, s10, s11, s12, s13, s14, s15, s16, s17, s18, s19, s20⟩; go_simp; with_reducible rfl); rotate_left; (simp only [pa, List.set_cons_zero, List.set_cons_succ, i64_w, i32_w]; rfl)
                            refine P1 ?_ 6 32 mk_7 rfl rfl HT_.out (by kernel_rfl) (fun _ _ _ => id) (.inl ⟨by rfl, ?_⟩) ?_ ?_ ?_; rotate_left; (intro w'; go_simp; with_reducible rfl); rotate_left; (simp only [pa, List.set_cons_zero, List.set_cons_succ, i64_w, i32_w]; rfl)
                            refine P1 ?_ 7 33 mk_8 rfl rfl HT_.out (by kernel_rfl) (fun _ _ _ => id) (.inl ⟨by rfl, ?_⟩) ?_ ?_ ?_; rotate_left; (intro w'; go_simp; with_reducible rfl); rotate_left; (simp only [pa, List.set_cons_zero, List.set_cons_succ, i64_w, i32_w]; rfl)
                            refine P1 ?_ 8 34 mk_9 rfl rfl HT_.out (by kernel_rfl) (fun _ _ _ => id) (.inl ⟨by rfl, ?_⟩) ?_ ?_ ?_; rotate_left; (intro w'; go_simp; with_reducible rfl); rotate_left; (simp only [pa, List.set_cons_zero, List.set_cons_succ, i64_w, i32_w]; rfl)
                            refine P1 ?_ 9 35 mk_10 rfl rfl HT_.out (by kernel_rfl) (fun _ _ _ => id) (.inl ⟨by rfl, ?_⟩) ?_ ?_ ?_; rotate_left; (intro w'; go_simp; with_reducible rfl); rotate_left; (simp only [pa, List.set_cons_zero, List.set_cons_succ, i64_w, i32_w]; rfl)
                            refine P1 ?_ 10 36 mk_11 rfl rfl HT_.out (by kernel_rfl) (fun _ _ _ => id) (.inl ⟨by rfl, ?_⟩) ?_ ?_ ?_; rotate_left; (intro w'; go_simp; with_reducible rfl); rotate_left; (simp only [pa, List.set_cons_zero, List.set_cons_succ, i64_w, i32_w]; rfl)
                            refine P1 ?_ 11 37 mk_12 rfl rfl HT_.out (by kernel_rfl) (fun _ _ _ => id) (.inl ⟨by rfl, ?_⟩) ?_ ?_ ?_; rotate_left; (intro w'; go_simp; with_reducible rfl); rotate_left; (simp only [pa, List.set_cons_zero, List.set_cons_succ, i64_w, i32_w]; rfl)
                            refine P1 ?_ 13 39 mk_13 rfl rfl HT_.out (by kernel_rfl) (fun _ _ _ => id) (.inl ⟨by rfl, ?_⟩) ?_ ?_ ?_; rotate_left; (intro w'; go_simp; with_reducible rfl); rotate_left; (simp only [pa, List.set_cons_zero, List.set_cons_succ, i64_w, i32_w]; rfl)
                            refine T1 ?_ 12 38 mk_14 rfl rfl HT_.out HW_.out (by kernel_rfl) (fun _ _ _ => id) (.inl ⟨by rfl, ?_⟩) hHeld ?_ ?_ ?_; rotate_left; (rintro w' ⟨s0, s1, s2, s3, s4, s5, s6, s7, s8, s9, s10, s11, s12, s13, s14, s15, s16, s17, s18, s19, s20⟩; go_simp; with_reducible rfl); rotate_left; (simp only [pa, List.set_cons_zero, List.set_cons_succ, i64_w, i32_w]; rfl)
                            refine P1 ?_ 14 40 mk_15 rfl rfl HT_.out (by kernel_rfl) (fun _ _ _ => id) (.inl ⟨by rfl, ?_⟩) ?_ ?_ ?_; rotate_left; (intro w'; go_simp; with_reducible rfl); rotate_left; (simp only [pa, List.set_cons_zero, List.set_cons_succ, i64_w, i32_w]; rfl)
                            refine P1 ?_ 15 41 mk_16 rfl rfl HT_.out (by kernel_rfl) (fun _ _ _ => id) (.inl ⟨by rfl, ?_⟩) ?_ ?_ ?_; rotate_left; (intro w'; go_simp; with_reducible rfl); rotate_left; (simp only [pa, List.set_cons_zero, List.set_cons_succ, i64_w, i32_w]; rfl)
                            refine P1 ?_ 16 42 mk_17 rfl rfl HT_.out (by kernel_rfl) (fun _ _ _ => id) (.inl ⟨by rfl, ?_⟩) ?_ ?_ ?_; rotate_left; (intro w'; go_simp; with_reducible rfl); rotate_left; (simp only [pa, List.set_cons_zero, List.set_cons_succ, i64_w, i32_w]; rfl)
                            refine P1 ?_ 17 43 mk_18 rfl rfl HT_.out (by kernel_rfl) (fun _ _ _ => id) (.inl ⟨by rfl, ?_⟩) ?_ ?_ ?_; rotate_left; (intro w'; go_simp; with_reducible rfl); rotate_left; (simp only [pa, List.set_cons_zero, List.set_cons_succ, i64_w, i32_w]; rfl)
                            refine P1 ?_ 18 44 mk_19 rfl rfl HT_.out (by kernel_rfl) (fun _ _ _ => id) (.inl ⟨by rfl, ?_⟩) ?_ ?_ ?_; rotate_left; (intro w'; go_simp; with_reducible rfl); rotate_left; (simp only [pa, List.set_cons_zero, List.set_cons_succ, i64_w, i32_w]; rfl)
                            refine P1 ?_ 19 45 mk_20 rfl rfl HT_.out (by kernel_rfl) (fun _ _ _ => id) (.inl ⟨by rfl, ?_⟩) ?_ ?_ ?_; rotate_left; (intro w'; go_simp; with_reducible rfl); rotate_left; (simp only [pa, List.set_cons_zero, List.set_cons_succ, i64_w, i32_w]; rfl)
                            refine P1 ?_ 20 46 mk_21 rfl rfl HT_.out (by kernel_rfl) (fun _ _ _ => id) (.inl ⟨by rfl, ?_⟩) ?_ ?_ ?_; rotate_left; (intro w'; go_simp; with_reducible rfl); rotate_left; (simp only [pa, List.set_cons_zero, List.set_cons_succ, i64_w, i32_w]; rfl)
                            refine P1 ?_ 22 48 mk_82 rfl rfl HT_.out (by kernel_rfl) (fun _ _ _ => id) (.inl ⟨by rfl, ?_⟩) ?_ ?_ ?_; rotate_left; (intro w'; go_simp; with_reducible rfl); rotate_left; (simp only [pa, List.set_cons_zero, List.set_cons_succ, i64_w, i32_w]; rfl)
                            refine P1 ?_ 23 49 mk_83 rfl rfl HT_.out (by kernel_rfl) (fun _ _ _ => id) (.inl ⟨by rfl, ?_⟩) ?_ ?_ ?_; rotate_left; (intro w'; go_simp; with_reducible rfl); rotate_left; (simp only [pa, List.set_cons_zero, List.set_cons_succ, i64_w, i32_w]; rfl)
                            refine P1 ?_ 24 50 mk_84 rfl rfl HT_.out (by kernel_rfl) (fun _ _ _ => id) (.inl ⟨by rfl, ?_⟩) ?_ ?_ ?_; rotate_left; (intro w'; go_simp; with_reducible rfl); rotate_left; (simp only [pa, List.set_cons_zero, List.set_cons_succ, i64_w, i32_w]; rfl)
                            refine P1 ?_ 25 51 mk_85 rfl rfl HT_.out (by kernel_rfl) (fun _ _ _ => id) (.inl ⟨by rfl, ?_⟩) ?_ ?_ ?_; rotate_left; (intro w'; go_simp; with_reducible rfl); rotate_left; (simp only [pa, List.set_cons_zero, List.set_cons_succ, i64_w, i32_w]; rfl)
                            refine T1 ?_ 21 47 mk_26 rfl rfl HT_.out HW_.out (by kernel_rfl) (fun _ _ _ => id) (.inl ⟨by rfl, ?_⟩) hHeld ?_ ?_ ?_; rotate_left; (rintro w' ⟨s0, s1, s2, s3, s4, s5, s6, s7, s8, s9, s10, s11, s12, s13, s14, s15, s16, s17, s18, s19, s20⟩; go_simp; with_reducible rfl); rotate_left; (simp only [pa, List.set_cons_zero, List.set_cons_succ, i64_w, i32_w]; rfl)
                            refine T1 ?_ 26 52 mk_27 rfl rfl HT_.out HW_.out (by kernel_rfl) (fun _ _ _ => id) (.inl ⟨by rfl, ?_⟩) hHeld ?_ ?_ ?_; rotate_left; (rintro w' ⟨s0, s1, s2, s3, s4, s5, s6, s7, s8, s9, s10, s11, s12, s13, s14, s15, s16, s17, s18, s19, s20⟩; go_simp; with_reducible rfl); rotate_left; (simp only [pa, List.set_cons_zero, List.set_cons_succ, i64_w, i32_w]; rfl)
                            refine P1 ?_ 27 53 mk_28 rfl rfl HT_.out (by kernel_rfl) (fun _ _ _ => id) (.inl ⟨by rfl, ?_⟩) ?_ ?_ ?_; rotate_left; (intro w'; go_simp; with_reducible rfl); rotate_left; (simp only [pa, List.set_cons_zero, List.set_cons_succ, i64_w, i32_w]; rfl)
                            refine P1 ?_ 28 54 mk_29 rfl rfl HT_.out (by kernel_rfl) (fun _ _ _ => id) (.inl ⟨by rfl, ?_⟩) ?_ ?_ ?_; rotate_left; (intro w'; go_simp; with_reducible rfl); rotate_left; (simp only [pa, List.set_cons_zero, List.set_cons_succ, i64_w, i32_w]; rfl)
                            refine P1 ?_ 29 55 mk_30 rfl rfl HT_.out (by kernel_rfl) (fun _ _ _ => id) (.inl ⟨by rfl, ?_⟩) ?_ ?_ ?_; rotate_left; (intro w'; go_simp; with_reducible rfl); rotate_left; (simp only [pa, List.set_cons_zero, List.set_cons_succ, i64_w, i32_w]; rfl)
                            refine P1 ?_ 30 56 mk_31 rfl rfl HT_.out (by kernel_rfl) (fun _ _ _ => id) (.inl ⟨by rfl, ?_⟩) ?_ ?_ ?_; rotate_left; (intro w'; go_simp; with_reducible rfl); rotate_left; (simp only [pa, List.set_cons_zero, List.set_cons_succ, i64_w, i32_w]; rfl)
                            refine P1 ?_ 31 57 mk_32 rfl rfl HT_.out (by kernel_rfl) (fun _ _ _ => id) (.inl ⟨by rfl, ?_⟩) ?_ ?_ ?_; rotate_left; (intro w'; go_simp; with_reducible rfl); rotate_left; (simp only [pa, List.set_cons_zero, List.set_cons_succ, i64_w, i32_w]; rfl)
                            refine P1 ?_ 32 58 mk_33 rfl rfl HT_.out (by kernel_rfl) (fun _ _ _ => id) (.inl ⟨by rfl, ?_⟩) ?_ ?_ ?_; rotate_left; (intro w'; go_simp; with_reducible rfl); rotate_left; (simp only [pa, List.set_cons_zero, List.set_cons_succ, i64_w, i32_w]; rfl)
                            refine P1 ?_ 33 59 mk_34 rfl rfl HT_.out (by kernel_rfl) (fun _ _ _ => id) (.inl ⟨by rfl, ?_⟩) ?_ ?_ ?_; rotate_left; (intro w'; go_simp; with_reducible rfl); rotate_left; (simp only [pa, List.set_cons_zero, List.set_cons_succ, i64_w, i32_w]; rfl)
                            refine P1 ?_ 35 61 mk_86 rfl rfl HT_.out (by kernel_rfl) (fun _ _ _ => id) (.inl ⟨by rfl, ?_⟩) ?_ ?_ ?_; rotate_left; (intro w'; go_simp; with_reducible rfl); rotate_left; (simp only [pa, List.set_cons_zero, List.set_cons_succ, i64_w, i32_w]; rfl)
                            refine P1 ?_ 36 62 mk_87 rfl rfl HT_.out (by kernel_rfl) (fun _ _ _ => id) (.inl ⟨by rfl, ?_⟩) ?_ ?_ ?_; rotate_left; (intro w'; go_simp; with_reducible rfl); rotate_left; (simp only [pa, List.set_cons_zero, List.set_cons_succ, i64_w, i32_w]; rfl)
                            refine T1 ?_ 34 60 mk_37 rfl rfl HT_.out HW_.out (by kernel_rfl) (fun _ _ _ => id) (.inl ⟨by rfl, ?_⟩) hHeld ?_ ?_ ?_; rotate_left; (rintro w' ⟨s0, s1, s2, s3, s4, s5, s6, s7, s8, s9, s10, s11, s12, s13, s14, s15, s16, s17, s18, s19, s20⟩; go_simp; with_reducible rfl); rotate_left; (simp only [pa, List.set_cons_zero, List.set_cons_succ, i64_w, i32_w]; rfl)
                            refine P1 ?_ 37 63 mk_38 rfl rfl HT_.out (by kernel_rfl) (fun _ _ _ => id) (.inl ⟨by rfl, ?_⟩) ?_ ?_ ?_; rotate_left; (intro w'; go_simp; with_reducible rfl); rotate_left; (simp only [pa, List.set_cons_zero, List.set_cons_succ, i64_w, i32_w]; rfl)
                            refine P1 ?_ 38 64 mk_39 rfl rfl HT_.out (by kernel_rfl) (fun _ _ _ => id) (.inl ⟨by rfl, ?_⟩) ?_ ?_ ?_; rotate_left; (intro w'; go_simp; with_reducible rfl); rotate_left; (simp only [pa, List.set_cons_zero, List.set_cons_succ, i64_w, i32_w]; rfl)
                            refine P1 ?_ 39 65 mk_40 rfl rfl HT_.out (by kernel_rfl) (fun _ _ _ => id) (.inl ⟨by rfl, ?_⟩) ?_ ?_ ?_; rotate_left; (intro w'; go_simp; with_reducible rfl); rotate_left; (simp only [pa, List.set_cons_zero, List.set_cons_succ, i64_w, i32_w]; rfl)
                            refine P1 ?_ 40 66 mk_41 rfl rfl HT_.out (by kernel_rfl) (fun _ _ _ => id) (.inl ⟨by rfl, ?_⟩) ?_ ?_ ?_; rotate_left; (intro w'; go_simp; with_reducible rfl); rotate_left; (simp only [pa, List.set_cons_zero, List.set_cons_succ, i64_w, i32_w]; rfl)
                            refine P1 ?_ 41 67 mk_42 rfl rfl HT_.out (by kernel_rfl) (fun _ _ _ => id) (.inl ⟨by rfl, ?_⟩) ?_ ?_ ?_; rotate_left; (intro w'; go_simp; with_reducible rfl); rotate_left; (simp only [pa, List.set_cons_zero, List.set_cons_succ, i64_w, i32_w]; rfl)
                            refine P1 ?_ 42 68 mk_43 rfl rfl HT_.out (by kernel_rfl) (fun _ _ _ => id) (.inl ⟨by rfl, ?_⟩) ?_ ?_ ?_; rotate_left; (intro w'; go_simp; with_reducible rfl); rotate_left; (simp only [pa, List.set_cons_zero, List.set_cons_succ, i64_w, i32_w]; rfl)
                            refine P1 ?_ 43 69 mk_44 rfl rfl HT_.out (by kernel_rfl) (fun _ _ _ => id) (.inl ⟨by rfl, ?_⟩) ?_ ?_ ?_; rotate_left; (intro w'; go_simp; with_reducible rfl); rotate_left; (simp only [pa, List.set_cons_zero, List.set_cons_succ, i64_w, i32_w]; rfl)
                            refine P1 ?_ 45 71 mk_88 rfl rfl HT_.out (by kernel_rfl) (fun _ _ _ => id) (.inl ⟨by rfl, ?_⟩) ?_ ?_ ?_; rotate_left; (intro w'; go_simp; with_reducible rfl); rotate_left; (simp only [pa, List.set_cons_zero, List.set_cons_succ, i64_w, i32_w]; rfl)
                            refine P1 ?_ 46 72 mk_89 rfl rfl HT_.out (by kernel_rfl) (fun _ _ _ => id) (.inl ⟨by rfl, ?_⟩) ?_ ?_ ?_; rotate_left; (intro w'; go_simp; with_reducible rfl); rotate_left; (simp only [pa, List.set_cons_zero, List.set_cons_succ, i64_w, i32_w]; rfl)
                            refine P1 ?_ 47 73 mk_90 rfl rfl HT_.out (by kernel_rfl) (fun _ _ _ => id) (.inl ⟨by rfl, ?_⟩) ?_ ?_ ?_; rotate_left; (intro w'; go_simp; with_reducible rfl); rotate_left; (simp only [pa, List.set_cons_zero, List.set_cons_succ, i64_w, i32_w]; rfl)
                            refine P1 ?_ 48 74 mk_91 rfl rfl HT_.out (by kernel_rfl) (fun _ _ _ => id) (.inl ⟨by rfl, ?_⟩) ?_ ?_ ?_; rotate_left; (intro w'; go_simp; with_reducible rfl); rotate_left; (simp only [pa, List.set_cons_zero, List.set_cons_succ, i64_w, i32_w]; rfl)
                            refine T1 ?_ 44 70 mk_49 rfl rfl HT_.out HW_.out (by kernel_rfl) (fun _ _ _ => id) (.inl ⟨by rfl, ?_⟩) hHeld ?_ ?_ ?_; rotate_left; (rintro w' ⟨s0, s1, s2, s3, s4, s5, s6, s7, s8, s9, s10, s11, s12, s13, s14, s15, s16, s17, s18, s19, s20⟩; go_simp; with_reducible rfl); rotate_left; (simp only [pa, List.set_cons_zero, List.set_cons_succ, i64_w, i32_w]; rfl)
                            refine T1 ?_ 49 75 mk_50 rfl rfl HT_.out HW_.out (by kernel_rfl) (fun _ _ _ => id) (.inl ⟨by rfl, ?_⟩) hHeld ?_ ?_ ?_; rotate_left; (rintro w' ⟨s0, s1, s2, s3, s4, s5, s6, s7, s8, s9, s10, s11, s12, s13, s14, s15, s16, s17, s18, s19, s20⟩; go_simp; with_reducible rfl); rotate_left; (simp only [pa, List.set_cons_zero, List.set_cons_succ, i64_w, i32_w]; rfl)
                            refine P1 ?_ 50 76 mk_51 rfl rfl HT_.out (by kernel_rfl) (fun _ _ _ => id) (.inl ⟨by rfl, ?_⟩) ?_ ?_ ?_; rotate_left; (intro w'; go_simp; with_reducible rfl); rotate_left; (simp only [pa, List.set_cons_zero, List.set_cons_succ, i64_w, i32_w]; rfl)
                            refine P1 ?_ 51 77 mk_52 rfl rfl HT_.out (by kernel_rfl) (fun _ _ _ => id) (.inl ⟨by rfl, ?_⟩) ?_ ?_ ?_; rotate_left; (intro w'; go_simp; with_reducible rfl); rotate_left; (simp only [pa, List.set_cons_zero, List.set_cons_succ, i64_w, i32_w]; rfl)
                            refine P1 ?_ 52 78 mk_53 rfl rfl HT_.out (by kernel_rfl) (fun _ _ _ => id) (.inl ⟨by rfl, ?_⟩) ?_ ?_ ?_; rotate_left; (intro w'; go_simp; with_reducible rfl); rotate_left; (simp only [pa, List.set_cons_zero, List.set_cons_succ, i64_w, i32_w]; rfl)
                            refine P1 ?_ 53 79 mk_54 rfl rfl HT_.out (by kernel_rfl) (fun _ _ _ => id) (.inl ⟨by rfl, ?_⟩) ?_ ?_ ?_; rotate_left; (intro w'; go_simp; with_reducible rfl); rotate_left; (simp only [pa, List.set_cons_zero, List.set_cons_succ, i64_w, i32_w]; rfl)
                            refine P1 ?_ 54 80 mk_55 rfl rfl HT_.out (by kernel_rfl) (fun _ _ _ => id) (.inl ⟨by rfl, ?_⟩) ?_ ?_ ?_; rotate_left; (intro w'; go_simp; with_reducible rfl); rotate_left; (simp only [pa, List.set_cons_zero, List.set_cons_succ, i64_w, i32_w]; rfl)
                            refine P1 ?_ 55 81 mk_56 rfl rfl HT_.out (by kernel_rfl) (fun _ _ _ => id) (.inl ⟨by rfl, ?_⟩) ?_ ?_ ?_; rotate_left; (intro w'; go_simp; with_reducible rfl); rotate_left; (simp only [pa, List.set_cons_zero, List.set_cons_succ, i64_w, i32_w]; rfl)
                            refine P1 ?_ 56 82 mk_57 rfl rfl HT_.out (by kernel_rfl) (fun _ _ _ => id) (.inl ⟨by rfl, ?_⟩) ?_ ?_ ?_; rotate_left; (intro w'; go_simp; with_reducible rfl); rotate_left; (simp only [pa, List.set_cons_zero, List.set_cons_succ, i64_w, i32_w]; rfl)
                            refine P1 ?_ 57 83 mk_58 rfl rfl HT_.out (by kernel_rfl) (fun _ _ _ => id) (.inl ⟨by rfl, ?_⟩) ?_ ?_ ?_; rotate_left; (intro w'; go_simp; with_reducible rfl); rotate_left; (simp only [pa, List.set_cons_zero, List.set_cons_succ, i64_w, i32_w]; rfl)
                            refine P1 ?_ 58 84 mk_59 rfl rfl HT_.out (by kernel_rfl) (fun _ _ _ => id) (.inl ⟨by rfl, ?_⟩) ?_ ?_ ?_; rotate_left; (intro w'; go_simp; with_reducible rfl); rotate_left; (simp only [pa, List.set_cons_zero, List.set_cons_succ, i64_w, i32_w]; rfl)
                            refine P1 ?_ 59 85 mk_60 rfl rfl HT_.out (by kernel_rfl) (fun _ _ _ => id) (.inl ⟨by rfl, ?_⟩) ?_ ?_ ?_; rotate_left; (intro w'; go_simp; with_reducible rfl); rotate_left; (simp only [pa, List.set_cons_zero, List.set_cons_succ, i64_w, i32_w]; rfl)
                            refine P1 undef 60 86 mk_61 rfl rfl HT_.out (by kernel_rfl) (fun _ _ _ => id) (.inr ⟨by rfl, rfl⟩) ?_ ?_ ?_; rotate_left; (simp only [pa, List.set_cons_zero, List.set_cons_succ, i64_w, i32_w]; rfl)
                            refine P1 undef 61 87 mk_62 rfl rfl HT_.out (by kernel_rfl) (fun _ _ _ => id) (.inr ⟨by rfl, rfl⟩) ?_ ?_ ?_; rotate_left; (simp only [pa, List.set_cons_zero, List.set_cons_succ, i64_w, i32_w]; rfl)
                            refine P1 undef 62 88 mk_63 rfl rfl HT_.out (by kernel_rfl) (fun _ _ _ => id) (.inr ⟨by rfl, rfl⟩) ?_ ?_ ?_; rotate_left; (simp only [pa, List.set_cons_zero, List.set_cons_succ, i64_w, i32_w]; rfl)
                            refine P1 undef 63 89 mk_64 rfl rfl HT_.out (by kernel_rfl) (fun _ _ _ => id) (.inr ⟨by rfl, rfl⟩) ?_ ?_ ?_; rotate_left; (simp only [pa, List.set_cons_zero, List.set_cons_succ, i64_w, i32_w]; rfl)
                            refine P1 undef 64 90 mk_65 rfl rfl HT_.out (by kernel_rfl) (fun _ _ _ => id) (.inr ⟨by rfl, rfl⟩) ?_ ?_ ?_; rotate_left; (simp only [pa, List.set_cons_zero, List.set_cons_succ, i64_w, i32_w]; rfl)
                            refine P1 undef 65 91 mk_66 rfl rfl HT_.out (by kernel_rfl) (fun _ _ _ => id) (.inr ⟨by rfl, rfl⟩) ?_ ?_ ?_; rotate_left; (simp only [pa, List.set_cons_zero, List.set_cons_succ, i64_w, i32_w]; rfl)
                            refine P1 undef 66 92 mk_67 rfl rfl HT_.out (by kernel_rfl) (fun _ _ _ => id) (.inr ⟨by rfl, rfl⟩) ?_ ?_ ?_; rotate_left; (simp only [pa, List.set_cons_zero, List.set_cons_succ, i64_w, i32_w]; rfl)
                            refine P1 undef 67 93 mk_68 rfl rfl HT_.out (by kernel_rfl) (fun _ _ _ => id) (.inr ⟨by rfl, rfl⟩) ?_ ?_ ?_; rotate_left; (simp only [pa, List.set_cons_zero, List.set_cons_succ, i64_w, i32_w]; rfl)
                            refine P1 undef 68 94 mk_69 rfl rfl HT_.out (by kernel_rfl) (fun _ _ _ => id) (.inr ⟨by rfl, rfl⟩) ?_ ?_ ?_; rotate_left; (simp only [pa, List.set_cons_zero, List.set_cons_succ, i64_w, i32_w]; rfl)
                            refine P1 undef 69 95 mk_70 rfl rfl HT_.out (by kernel_rfl) (fun _ _ _ => id) (.inr ⟨by rfl, rfl⟩) ?_ ?_ ?_; rotate_left; (simp only [pa, List.set_cons_zero, List.set_cons_succ, i64_w, i32_w]; rfl)
                            refine P1 undef 70 96 mk_71 rfl rfl HT_.out (by kernel_rfl) (fun _ _ _ => id) (.inr ⟨by rfl, rfl⟩) ?_ ?_ ?_; rotate_left; (simp only [pa, List.set_cons_zero, List.set_cons_succ, i64_w, i32_w]; rfl)
                            refine P1 undef 71 97 mk_72 rfl rfl HT_.out (by kernel_rfl) (fun _ _ _ => id) (.inr ⟨by rfl, rfl⟩) ?_ ?_ ?_; rotate_left; (simp only [pa, List.set_cons_zero, List.set_cons_succ, i64_w, i32_w]; rfl)
                            refine P1 undef 72 98 mk_73 rfl rfl HT_.out (by kernel_rfl) (fun _ _ _ => id) (.inr ⟨by rfl, rfl⟩) ?_ ?_ ?_; rotate_left; (simp only [pa, List.set_cons_zero, List.set_cons_succ, i64_w, i32_w]; rfl)
                            refine P1 undef 73 99 mk_74 rfl rfl HT_.out (by kernel_rfl) (fun _ _ _ => id) (.inr ⟨by rfl, rfl⟩) ?_ ?_ ?_; rotate_left; (simp only [pa, List.set_cons_zero, List.set_cons_succ, i64_w, i32_w]; rfl)
                            refine P1 undef 74 100 mk_75 rfl rfl HT_.out (by kernel_rfl) (fun _ _ _ => id) (.inr ⟨by rfl, rfl⟩) ?_ ?_ ?_; rotate_left; (simp only [pa, List.set_cons_zero, List.set_cons_succ, i64_w, i32_w]; rfl)
                            refine P1 undef 75 101 mk_76 rfl rfl HT_.out (by kernel_rfl) (fun _ _ _ => id) (.inr ⟨by rfl, rfl⟩) ?_ ?_ ?_; rotate_left; (simp only [pa, List.set_cons_zero, List.set_cons_succ, i64_w, i32_w]; rfl)
                            refine P1 undef 76 102 mk_77 rfl rfl HT_.out (by kernel_rfl) (fun _ _ _ => id) (.inr ⟨by rfl, rfl⟩) ?_ ?_ ?_; rotate_left; (simp only [pa, List.set_cons_zero, List.set_cons_succ, i64_w, i32_w]; rfl)
                            refine P1 undef 77 103 mk_78 rfl rfl HT_.out (by kernel_rfl) (fun _ _ _ => id) (.inr ⟨by rfl, rfl⟩) ?_ ?_ ?_; rotate_left; (simp only [pa, List.set_cons_zero, List.set_cons_succ, i64_w, i32_w]; rfl)
                            refine P1 undef 78 104 mk_79 rfl rfl HT_.out (by kernel_rfl) (fun _ _ _ => id) (.inr ⟨by rfl, rfl⟩) ?_ ?_ ?_; rotate_left; (simp only [pa, List.set_cons_zero, List.set_cons_succ, i64_w, i32_w]; rfl)
                            refine P1 undef 79 105 mk_80 rfl rfl HT_.out (by kernel_rfl) (fun _ _ _ => id) (.inr ⟨by rfl, rfl⟩) ?_ ?_ ?_; rotate_left; (simp only [pa, List.set_cons_zero, List.set_cons_succ, i64_w, i32_w]; rfl)
                            refine P1 ?_ 80 106 mk_81 rfl rfl HT_.out (by kernel_rfl) (fun _ _ _ => id) (.inl ⟨by rfl, ?_⟩) ?_ ?_ ?_; rotate_left; (intro w'; go_simp; with_reducible rfl); rotate_left; (simp only [pa, List.set_cons_zero, List.set_cons_succ, i64_w, i32_w]; rfl)
                            refine done_ (done_of HT_.out (by kernel_rfl)) ?_
                            try go_wp2
                            go_meet
                            case rel => exact ⟨_, (true), (by first | rfl | (simp; done) | (simp [*]; done) | (simp [wrap64]; done)), H', ⟨by have := HK1.out; first | omega | exact Nat.le_refl _⟩, ⟨by (with_reducible repeat (first | apply Kd.R_alloc | apply Kd.R_drewN | apply Kd.R_drew)); exact HO_6.out⟩, ⟨by repeat (first | (with_reducible first | exact HB.out | apply below_alloc | apply pw_below_drewN | apply below_drew1) | exact HB.out)⟩⟩
                          · rw [if_neg c23] at H
                            have c23b0 : decide (x8_1 < (wrap64 ((t163.length : Int) - 1))) = false := decide_eq_false c23
                            clear c23
                            replace H := Option.bind_eq_some_iff.mp H
                            obtain ⟨t177, A250, H⟩ := H
                            replace H : (targumlaw2_BrkWhole.j1 k1 a0 t162 t163 x8_1 ((wrap64 (((rd_T27 t163 x8_1).f2) - ((rd_T27 t163 x8_1).f1))) != t177)) = some r := H
                            have A25 := Aside0.mk A250
                            clear A250
                            have H' := Aside0.mk H
                            clear H
                            try go_wp2
                            have n0_ := Aside0.mk (Kd.R_drew HO_6.out)
                            have n1_ := Aside0.mk (below_drew1 HB.out)
                            clear HO_6
                            clear HB
                            have HO_6 := n0_
                            have HB := n1_
                            clear n0_ n1_
                            have p167 : 0 ≤ (x8_1 : Int) := of_decide_eq_true (by first | (with_reducible assumption) | assumption)
                            have q167 : x8_1 < (t163.length : Int) := of_decide_eq_true (by first | (with_reducible assumption) | assumption)
                            obtain ⟨ad167, e167, hx167_0, hx167_1, hx167_2⟩ := at_T27 (Kd.R_reads' HO_6.out).2.2 x8_1 p167 q167
                            cases e167
                            replace p167 := eq_true p167
                            replace q167 := eq_true q167
                            have p168 : 0 ≤ (x8_1 : Int) := of_decide_eq_true (by first | (with_reducible assumption) | assumption)
                            have q168 : x8_1 < (t163.length : Int) := of_decide_eq_true (by first | (with_reducible assumption) | assumption)
                            obtain ⟨ad168, e168, hx168_0, hx168_1, hx168_2⟩ := at_T27 (Kd.R_reads' HO_6.out).2.2 x8_1 p168 q168
                            obtain rfl : ad167 = ad168 := (by injection e168)
                            replace p168 := eq_true p168
                            replace q168 := eq_true q168
                            have p169 : 0 ≤ (x8_1 : Int) := of_decide_eq_true (by first | (with_reducible assumption) | assumption)
                            have q169 : x8_1 < (t163.length : Int) := of_decide_eq_true (by first | (with_reducible assumption) | assumption)
                            obtain ⟨ad169, e169, hx169_0, hx169_1, hx169_2⟩ := at_T27 (Kd.R_reads' HO_6.out).2.2 x8_1 p169 q169
                            obtain rfl : ad167 = ad169 := (by injection e169)
                            replace p169 := eq_true p169
                            replace q169 := eq_true q169
                            have p170 : 0 ≤ (x8_1 : Int) := of_decide_eq_true (by first | (with_reducible assumption) | assumption)
                            have q170 : x8_1 < (t163.length : Int) := of_decide_eq_true (by first | (with_reducible assumption) | assumption)
                            obtain ⟨ad170, e170, hx170_0, hx170_1, hx170_2⟩ := at_T27 (Kd.R_reads' HO_6.out).2.2 x8_1 p170 q170
                            obtain rfl : ad167 = ad170 := (by injection e170)
                            replace p170 := eq_true p170
                            replace q170 := eq_true q170
                            have p171 : 0 ≤ (x8_1 : Int) := of_decide_eq_true (by first | (with_reducible assumption) | assumption)
                            have q171 : x8_1 < (t163.length : Int) := of_decide_eq_true (by first | (with_reducible assumption) | assumption)
                            obtain ⟨ad171, e171, hx171_0, hx171_1, hx171_2⟩ := at_T27 (Kd.R_reads' HO_6.out).2.2 x8_1 p171 q171
                            obtain rfl : ad167 = ad171 := (by injection e171)
                            replace p171 := eq_true p171
                            replace q171 := eq_true q171
                            have p172 : 0 ≤ (x8_1 : Int) := of_decide_eq_true (by first | (with_reducible assumption) | assumption)
                            have q172 : x8_1 < (t163.length : Int) := of_decide_eq_true (by first | (with_reducible assumption) | assumption)
                            obtain ⟨ad172, e172, hx172_0, hx172_1, hx172_2⟩ := at_T27 (Kd.R_reads' HO_6.out).2.2 x8_1 p172 q172
                            obtain rfl : ad167 = ad172 := (by injection e172)
                            replace p172 := eq_true p172
                            replace q172 := eq_true q172
                            have p173 : 0 ≤ (x8_1 : Int) := of_decide_eq_true (by first | (with_reducible assumption) | assumption)
                            have q173 : x8_1 < (t163.length : Int) := of_decide_eq_true (by first | (with_reducible assumption) | assumption)
                            obtain ⟨ad173, e173, hx173_0, hx173_1, hx173_2⟩ := at_T27 (Kd.R_reads' HO_6.out).2.2 x8_1 p173 q173
                            obtain rfl : ad167 = ad173 := (by injection e173)
                            replace p173 := eq_true p173
                            replace q173 := eq_true q173
                            have p174 : 0 ≤ (x8_1 : Int) := of_decide_eq_true (by first | (with_reducible assumption) | assumption)
                            have q174 : x8_1 < (t163.length : Int) := of_decide_eq_true (by first | (with_reducible assumption) | assumption)
                            obtain ⟨ad174, e174, hx174_0, hx174_1, hx174_2⟩ := at_T27 (Kd.R_reads' HO_6.out).2.2 x8_1 p174 q174
                            obtain rfl : ad167 = ad174 := (by injection e174)
                            replace p174 := eq_true p174
                            replace q174 := eq_true q174
                            have p175 : 0 ≤ (x8_1 : Int) := of_decide_eq_true (by first | (with_reducible assumption) | assumption)
                            have q175 : x8_1 < (t163.length : Int) := of_decide_eq_true (by first | (with_reducible assumption) | assumption)
                            obtain ⟨ad175, e175, hx175_0, hx175_1, hx175_2⟩ := at_T27 (Kd.R_reads' HO_6.out).2.2 x8_1 p175 q175
                            obtain rfl : ad167 = ad175 := (by injection e175)
                            replace p175 := eq_true p175
                            replace q175 := eq_true q175
                            have p176 : 0 ≤ (x8_1 : Int) := of_decide_eq_true (by first | (with_reducible assumption) | assumption)
                            have q176 : x8_1 < (t163.length : Int) := of_decide_eq_true (by first | (with_reducible assumption) | assumption)
                            obtain ⟨ad176, e176, hx176_0, hx176_1, hx176_2⟩ := at_T27 (Kd.R_reads' HO_6.out).2.2 x8_1 p176 q176
                            obtain rfl : ad167 = ad176 := (by injection e176)
                            replace p176 := eq_true p176
                            replace q176 := eq_true q176
                            refine start_ (n := 81) (S := fun w' => w'.cell? (ad167.add ((x8_1).toNat * 3)) = some (.int .i64 ((rd_T27 t163 x8_1).f0)) ∧ w'.cell? ⟨(ad167.add ((x8_1).toNat * 3)).block, (ad167.add ((x8_1).toNat * 3)).off + 1, none⟩ = some (.int .i64 ((rd_T27 t163 x8_1).f1)) ∧ w'.cell? ⟨(ad167.add ((x8_1).toNat * 3)).block, (ad167.add ((x8_1).toNat * 3)).off + 2, none⟩ = some (.int .i64 ((rd_T27 t163 x8_1).f2)) ∧ w'.cell? (ad167.add ((x8_1).toNat * 3)) = some (.int .i64 ((rd_T27 t163 x8_1).f0)) ∧ w'.cell? ⟨(ad167.add ((x8_1).toNat * 3)).block, (ad167.add ((x8_1).toNat * 3)).off + 1, none⟩ = some (.int .i64 ((rd_T27 t163 x8_1).f1)) ∧ w'.cell? ⟨(ad167.add ((x8_1).toNat * 3)).block, (ad167.add ((x8_1).toNat * 3)).off + 2, none⟩ = some (.int .i64 ((rd_T27 t163 x8_1).f2)) ∧ w'.cell? (ad167.add ((x8_1).toNat * 3)) = some (.int .i64 ((rd_T27 t163 x8_1).f0)) ∧ w'.cell? ⟨(ad167.add ((x8_1).toNat * 3)).block, (ad167.add ((x8_1).toNat * 3)).off + 1, none⟩ = some (.int .i64 ((rd_T27 t163 x8_1).f1)) ∧ w'.cell? ⟨(ad167.add ((x8_1).toNat * 3)).block, (ad167.add ((x8_1).toNat * 3)).off + 2, none⟩ = some (.int .i64 ((rd_T27 t163 x8_1).f2)) ∧ w'.cell? (ad167.add ((x8_1).toNat * 3)) = some (.int .i64 ((rd_T27 t163 x8_1).f0)) ∧ w'.cell? ⟨(ad167.add ((x8_1).toNat * 3)).block, (ad167.add ((x8_1).toNat * 3)).off + 1, none⟩ = some (.int .i64 ((rd_T27 t163 x8_1).f1)) ∧ w'.cell? ⟨(ad167.add ((x8_1).toNat * 3)).block, (ad167.add ((x8_1).toNat * 3)).off + 2, none⟩ = some (.int .i64 ((rd_T27 t163 x8_1).f2)) ∧ w'.cell? (ad167.add ((x8_1).toNat * 3)) = some (.int .i64 ((rd_T27 t163 x8_1).f0)) ∧ w'.cell? ⟨(ad167.add ((x8_1).toNat * 3)).block, (ad167.add ((x8_1).toNat * 3)).off + 1, none⟩ = some (.int .i64 ((rd_T27 t163 x8_1).f1)) ∧ w'.cell? ⟨(ad167.add ((x8_1).toNat * 3)).block, (ad167.add ((x8_1).toNat * 3)).off + 2, none⟩ = some (.int .i64 ((rd_T27 t163 x8_1).f2)) ∧ w'.cell? (ad167.add ((x8_1).toNat * 3)) = some (.int .i64 ((rd_T27 t163 x8_1).f0)) ∧ w'.cell? ⟨(ad167.add ((x8_1).toNat * 3)).block, (ad167.add ((x8_1).toNat * 3)).off + 1, none⟩ = some (.int .i64 ((rd_T27 t163 x8_1).f1)) ∧ w'.cell? ⟨(ad167.add ((x8_1).toNat * 3)).block, (ad167.add ((x8_1).toNat * 3)).off + 2, none⟩ = some (.int .i64 ((rd_T27 t163 x8_1).f2)) ∧ w'.cell? (ad167.add ((x8_1).toNat * 3)) = some (.int .i64 ((rd_T27 t163 x8_1).f0)) ∧ w'.cell? ⟨(ad167.add ((x8_1).toNat * 3)).block, (ad167.add ((x8_1).toNat * 3)).off + 1, none⟩ = some (.int .i64 ((rd_T27 t163 x8_1).f1)) ∧ w'.cell? ⟨(ad167.add ((x8_1).toNat * 3)).block, (ad167.add ((x8_1).toNat * 3)).off + 2, none⟩ = some (.int .i64 ((rd_T27 t163 x8_1).f2)) ∧ w'.cell? (ad167.add ((x8_1).toNat * 3)) = some (.int .i64 ((rd_T27 t163 x8_1).f0)) ∧ w'.cell? ⟨(ad167.add ((x8_1).toNat * 3)).block, (ad167.add ((x8_1).toNat * 3)).off + 1, none⟩ = some (.int .i64 ((rd_T27 t163 x8_1).f1)) ∧ w'.cell? ⟨(ad167.add ((x8_1).toNat * 3)).block, (ad167.add ((x8_1).toNat * 3)).off + 2, none⟩ = some (.int .i64 ((rd_T27 t163 x8_1).f2)) ∧ w'.cell? (ad167.add ((x8_1).toNat * 3)) = some (.int .i64 ((rd_T27 t163 x8_1).f0)) ∧ w'.cell? ⟨(ad167.add ((x8_1).toNat * 3)).block, (ad167.add ((x8_1).toNat * 3)).off + 1, none⟩ = some (.int .i64 ((rd_T27 t163 x8_1).f1)) ∧ w'.cell? ⟨(ad167.add ((x8_1).toNat * 3)).block, (ad167.add ((x8_1).toNat * 3)).off + 2, none⟩ = some (.int .i64 ((rd_T27 t163 x8_1).f2)) ∧ w'.cell? (ad167.add ((x8_1).toNat * 3)) = some (.int .i64 ((rd_T27 t163 x8_1).f0)) ∧ w'.cell? ⟨(ad167.add ((x8_1).toNat * 3)).block, (ad167.add ((x8_1).toNat * 3)).off + 1, none⟩ = some (.int .i64 ((rd_T27 t163 x8_1).f1)) ∧ w'.cell? ⟨(ad167.add ((x8_1).toNat * 3)).block, (ad167.add ((x8_1).toNat * 3)).off + 2, none⟩ = some (.int .i64 ((rd_T27 t163 x8_1).f2))) (ds := []) mk_0 (by kernel_rfl) rfl rfl ⟨hx167_0, hx167_1, hx167_2, hx168_0, hx168_1, hx168_2, hx169_0, hx169_1, hx169_2, hx170_0, hx170_1, hx170_2, hx171_0, hx171_1, hx171_2, hx172_0, hx172_1, hx172_2, hx173_0, hx173_1, hx173_2, hx174_0, hx174_1, hx174_2, hx175_0, hx175_1, hx175_2, hx176_0, hx176_1, hx176_2⟩ (fun hHeld => ?_); refine with_tabW targumlaw2_BrkWhole.tab11 targumlaw2_BrkWhole.bits11 (fun HT_ HW_ => ?_)
                            generalize wr.drew = w26 at HO_6 HB hx167_0 hx167_1 hx167_2 hx168_0 hx168_1 hx168_2 hx169_0 hx169_1 hx169_2 hx170_0 hx170_1 hx170_2 hx171_0 hx171_1 hx171_2 hx172_0 hx172_1 hx172_2 hx173_0 hx173_1 hx173_2 hx174_0 hx174_1 hx174_2 hx175_0 hx175_1 hx175_2 hx176_0 hx176_1 hx176_2 hHeld ⊢
                            refine P1 ?_ 0 26 mk_1 rfl rfl HT_.out (by kernel_rfl) (fun _ _ _ => id) (.inl ⟨by rfl, ?_⟩) ?_ ?_ ?_; rotate_left; (intro w'; go_simp; with_reducible rfl); rotate_left; (simp only [pa, List.set_cons_zero, List.set_cons_succ, i64_w, i32_w]; rfl)
                            refine P1 ?_ 1 27 mk_2 rfl rfl HT_.out (by kernel_rfl) (fun _ _ _ => id) (.inl ⟨by rfl, ?_⟩) ?_ ?_ ?_; rotate_left; (intro w'; go_simp; with_reducible rfl); rotate_left; (simp only [pa, List.set_cons_zero, List.set_cons_succ, i64_w, i32_w]; rfl)
                            refine P1 ?_ 2 28 mk_3 rfl rfl HT_.out (by kernel_rfl) (fun _ _ _ => id) (.inl ⟨by rfl, ?_⟩) ?_ ?_ ?_; rotate_left; (intro w'; go_simp; with_reducible rfl); rotate_left; (simp only [pa, List.set_cons_zero, List.set_cons_succ, i64_w, i32_w]; rfl)
                            refine P1 ?_ 3 29 mk_4 rfl rfl HT_.out (by kernel_rfl) (fun _ _ _ => id) (.inl ⟨by rfl, ?_⟩) ?_ ?_ ?_; rotate_left; (intro w'; go_simp; with_reducible rfl); rotate_left; (simp only [pa, List.set_cons_zero, List.set_cons_succ, i64_w, i32_w]; rfl)
                            refine P1 ?_ 5 31 mk_5 rfl rfl HT_.out (by kernel_rfl) (fun _ _ _ => id) (.inl ⟨by rfl, ?_⟩) ?_ ?_ ?_; rotate_left; (intro w'; go_simp; with_reducible rfl); rotate_left; (simp only [pa, List.set_cons_zero, List.set_cons_succ, i64_w, i32_w]; rfl)
                            refine T1 ?_ 4 30 mk_6 rfl rfl HT_.out HW_.out (by kernel_rfl) (fun _ _ _ => id) (.inl ⟨by rfl, ?_⟩) hHeld ?_ ?_ ?_; rotate_left; (rintro w' ⟨s0, s1, s2, s3, s4, s5, s6, s7, s8, s9, s10, s11, s12, s13, s14, s15, s16, s17, s18, s19, s20, s21, s22, s23, s24, s25, s26, s27, s28, s29⟩; go_simp; with_reducible rfl); rotate_left; (simp only [pa, List.set_cons_zero, List.set_cons_succ, i64_w, i32_w]; rfl)
                            refine P1 ?_ 6 32 mk_7 rfl rfl HT_.out (by kernel_rfl) (fun _ _ _ => id) (.inl ⟨by rfl, ?_⟩) ?_ ?_ ?_; rotate_left; (intro w'; go_simp; with_reducible rfl); rotate_left; (simp only [pa, List.set_cons_zero, List.set_cons_succ, i64_w, i32_w]; rfl)
                            refine P1 ?_ 7 33 mk_8 rfl rfl HT_.out (by kernel_rfl) (fun _ _ _ => id) (.inl ⟨by rfl, ?_⟩) ?_ ?_ ?_; rotate_left; (intro w'; go_simp; with_reducible rfl); rotate_left; (simp only [pa, List.set_cons_zero, List.set_cons_succ, i64_w, i32_w]; rfl)
                            refine P1 ?_ 8 34 mk_9 rfl rfl HT_.out (by kernel_rfl) (fun _ _ _ => id) (.inl ⟨by rfl, ?_⟩) ?_ ?_ ?_; rotate_left; (intro w'; go_simp; with_reducible rfl); rotate_left; (simp only [pa, List.set_cons_zero, List.set_cons_succ, i64_w, i32_w]; rfl)
                            refine P1 ?_ 9 35 mk_10 rfl rfl HT_.out (by kernel_rfl) (fun _ _ _ => id) (.inl ⟨by rfl, ?_⟩) ?_ ?_ ?_; rotate_left; (intro w'; go_simp; with_reducible rfl); rotate_left; (simp only [pa, List.set_cons_zero, List.set_cons_succ, i64_w, i32_w]; rfl)
                            refine P1 ?_ 10 36 mk_11 rfl rfl HT_.out (by kernel_rfl) (fun _ _ _ => id) (.inl ⟨by rfl, ?_⟩) ?_ ?_ ?_; rotate_left; (intro w'; go_simp; with_reducible rfl); rotate_left; (simp only [pa, List.set_cons_zero, List.set_cons_succ, i64_w, i32_w]; rfl)
                            refine P1 ?_ 11 37 mk_12 rfl rfl HT_.out (by kernel_rfl) (fun _ _ _ => id) (.inl ⟨by rfl, ?_⟩) ?_ ?_ ?_; rotate_left; (intro w'; go_simp; with_reducible rfl); rotate_left; (simp only [pa, List.set_cons_zero, List.set_cons_succ, i64_w, i32_w]; rfl)
                            refine P1 ?_ 13 39 mk_13 rfl rfl HT_.out (by kernel_rfl) (fun _ _ _ => id) (.inl ⟨by rfl, ?_⟩) ?_ ?_ ?_; rotate_left; (intro w'; go_simp; with_reducible rfl); rotate_left; (simp only [pa, List.set_cons_zero, List.set_cons_succ, i64_w, i32_w]; rfl)
                            refine T1 ?_ 12 38 mk_14 rfl rfl HT_.out HW_.out (by kernel_rfl) (fun _ _ _ => id) (.inl ⟨by rfl, ?_⟩) hHeld ?_ ?_ ?_; rotate_left; (rintro w' ⟨s0, s1, s2, s3, s4, s5, s6, s7, s8, s9, s10, s11, s12, s13, s14, s15, s16, s17, s18, s19, s20, s21, s22, s23, s24, s25, s26, s27, s28, s29⟩; go_simp; with_reducible rfl); rotate_left; (simp only [pa, List.set_cons_zero, List.set_cons_succ, i64_w, i32_w]; rfl)
                            refine P1 ?_ 14 40 mk_15 rfl rfl HT_.out (by kernel_rfl) (fun _ _ _ => id) (.inl ⟨by rfl, ?_⟩) ?_ ?_ ?_; rotate_left; (intro w'; go_simp; with_reducible rfl); rotate_left; (simp only [pa, List.set_cons_zero, List.set_cons_succ, i64_w, i32_w]; rfl)
                            refine P1 ?_ 15 41 mk_16 rfl rfl HT_.out (by kernel_rfl) (fun _ _ _ => id) (.inl ⟨by rfl, ?_⟩) ?_ ?_ ?_; rotate_left; (intro w'; go_simp; with_reducible rfl); rotate_left; (simp only [pa, List.set_cons_zero, List.set_cons_succ, i64_w, i32_w]; rfl)
                            refine P1 ?_ 16 42 mk_17 rfl rfl HT_.out (by kernel_rfl) (fun _ _ _ => id) (.inl ⟨by rfl, ?_⟩) ?_ ?_ ?_; rotate_left; (intro w'; go_simp; with_reducible rfl); rotate_left; (simp only [pa, List.set_cons_zero, List.set_cons_succ, i64_w, i32_w]; rfl)
                            refine P1 ?_ 17 43 mk_18 rfl rfl HT_.out (by kernel_rfl) (fun _ _ _ => id) (.inl ⟨by rfl, ?_⟩) ?_ ?_ ?_; rotate_left; (intro w'; go_simp; with_reducible rfl); rotate_left; (simp only [pa, List.set_cons_zero, List.set_cons_succ, i64_w, i32_w]; rfl)
                            refine P1 ?_ 18 44 mk_19 rfl rfl HT_.out (by kernel_rfl) (fun _ _ _ => id) (.inl ⟨by rfl, ?_⟩) ?_ ?_ ?_; rotate_left; (intro w'; go_simp; with_reducible rfl); rotate_left; (simp only [pa, List.set_cons_zero, List.set_cons_succ, i64_w, i32_w]; rfl)
                            refine P1 ?_ 19 45 mk_20 rfl rfl HT_.out (by kernel_rfl) (fun _ _ _ => id) (.inl ⟨by rfl, ?_⟩) ?_ ?_ ?_; rotate_left; (intro w'; go_simp; with_reducible rfl); rotate_left; (simp only [pa, List.set_cons_zero, List.set_cons_succ, i64_w, i32_w]; rfl)
                            refine P1 ?_ 20 46 mk_21 rfl rfl HT_.out (by kernel_rfl) (fun _ _ _ => id) (.inl ⟨by rfl, ?_⟩) ?_ ?_ ?_; rotate_left; (intro w'; go_simp; with_reducible rfl); rotate_left; (simp only [pa, List.set_cons_zero, List.set_cons_succ, i64_w, i32_w]; rfl)
                            refine P1 ?_ 22 48 mk_82 rfl rfl HT_.out (by kernel_rfl) (fun _ _ _ => id) (.inl ⟨by rfl, ?_⟩) ?_ ?_ ?_; rotate_left; (intro w'; go_simp; with_reducible rfl); rotate_left; (simp only [pa, List.set_cons_zero, List.set_cons_succ, i64_w, i32_w]; rfl)
                            refine P1 ?_ 23 49 mk_83 rfl rfl HT_.out (by kernel_rfl) (fun _ _ _ => id) (.inl ⟨by rfl, ?_⟩) ?_ ?_ ?_; rotate_left; (intro w'; go_simp; with_reducible rfl); rotate_left; (simp only [pa, List.set_cons_zero, List.set_cons_succ, i64_w, i32_w]; rfl)
                            refine P1 ?_ 24 50 mk_84 rfl rfl HT_.out (by kernel_rfl) (fun _ _ _ => id) (.inl ⟨by rfl, ?_⟩) ?_ ?_ ?_; rotate_left; (intro w'; go_simp; with_reducible rfl); rotate_left; (simp only [pa, List.set_cons_zero, List.set_cons_succ, i64_w, i32_w]; rfl)
                            refine P1 ?_ 25 51 mk_85 rfl rfl HT_.out (by kernel_rfl) (fun _ _ _ => id) (.inl ⟨by rfl, ?_⟩) ?_ ?_ ?_; rotate_left; (intro w'; go_simp; with_reducible rfl); rotate_left; (simp only [pa, List.set_cons_zero, List.set_cons_succ, i64_w, i32_w]; rfl)
                            refine T1 ?_ 21 47 mk_26 rfl rfl HT_.out HW_.out (by kernel_rfl) (fun _ _ _ => id) (.inl ⟨by rfl, ?_⟩) hHeld ?_ ?_ ?_; rotate_left; (rintro w' ⟨s0, s1, s2, s3, s4, s5, s6, s7, s8, s9, s10, s11, s12, s13, s14, s15, s16, s17, s18, s19, s20, s21, s22, s23, s24, s25, s26, s27, s28, s29⟩; go_simp; with_reducible rfl); rotate_left; (simp only [pa, List.set_cons_zero, List.set_cons_succ, i64_w, i32_w]; rfl)
                            refine T1 ?_ 26 52 mk_27 rfl rfl HT_.out HW_.out (by kernel_rfl) (fun _ _ _ => id) (.inl ⟨by rfl, ?_⟩) hHeld ?_ ?_ ?_; rotate_left; (rintro w' ⟨s0, s1, s2, s3, s4, s5, s6, s7, s8, s9, s10, s11, s12, s13, s14, s15, s16, s17, s18, s19, s20, s21, s22, s23, s24, s25, s26, s27, s28, s29⟩; go_simp; with_reducible rfl); rotate_left; (simp only [pa, List.set_cons_zero, List.set_cons_succ, i64_w, i32_w]; rfl)
                            refine P1 ?_ 27 53 mk_28 rfl rfl HT_.out (by kernel_rfl) (fun _ _ _ => id) (.inl ⟨by rfl, ?_⟩) ?_ ?_ ?_; rotate_left; (intro w'; go_simp; with_reducible rfl); rotate_left; (simp only [pa, List.set_cons_zero, List.set_cons_succ, i64_w, i32_w]; rfl)
                            refine P1 ?_ 28 54 mk_29 rfl rfl HT_.out (by kernel_rfl) (fun _ _ _ => id) (.inl ⟨by rfl, ?_⟩) ?_ ?_ ?_; rotate_left; (intro w'; go_simp; with_reducible rfl); rotate_left; (simp only [pa, List.set_cons_zero, List.set_cons_succ, i64_w, i32_w]; rfl)
                            refine P1 ?_ 29 55 mk_30 rfl rfl HT_.out (by kernel_rfl) (fun _ _ _ => id) (.inl ⟨by rfl, ?_⟩) ?_ ?_ ?_; rotate_left; (intro w'; go_simp; with_reducible rfl); rotate_left; (simp only [pa, List.set_cons_zero, List.set_cons_succ, i64_w, i32_w]; rfl)
                            refine P1 ?_ 30 56 mk_31 rfl rfl HT_.out (by kernel_rfl) (fun _ _ _ => id) (.inl ⟨by rfl, ?_⟩) ?_ ?_ ?_; rotate_left; (intro w'; go_simp; with_reducible rfl); rotate_left; (simp only [pa, List.set_cons_zero, List.set_cons_succ, i64_w, i32_w]; rfl)
                            refine P1 ?_ 31 57 mk_32 rfl rfl HT_.out (by kernel_rfl) (fun _ _ _ => id) (.inl ⟨by rfl, ?_⟩) ?_ ?_ ?_; rotate_left; (intro w'; go_simp; with_reducible rfl); rotate_left; (simp only [pa, List.set_cons_zero, List.set_cons_succ, i64_w, i32_w]; rfl)
                            refine P1 ?_ 32 58 mk_33 rfl rfl HT_.out (by kernel_rfl) (fun _ _ _ => id) (.inl ⟨by rfl, ?_⟩) ?_ ?_ ?_; rotate_left; (intro w'; go_simp; with_reducible rfl); rotate_left; (simp only [pa, List.set_cons_zero, List.set_cons_succ, i64_w, i32_w]; rfl)
                            refine P1 ?_ 33 59 mk_34 rfl rfl HT_.out (by kernel_rfl) (fun _ _ _ => id) (.inl ⟨by rfl, ?_⟩) ?_ ?_ ?_; rotate_left; (intro w'; go_simp; with_reducible rfl); rotate_left; (simp only [pa, List.set_cons_zero, List.set_cons_succ, i64_w, i32_w]; rfl)
                            refine P1 ?_ 35 61 mk_86 rfl rfl HT_.out (by kernel_rfl) (fun _ _ _ => id) (.inl ⟨by rfl, ?_⟩) ?_ ?_ ?_; rotate_left; (intro w'; go_simp; with_reducible rfl); rotate_left; (simp only [pa, List.set_cons_zero, List.set_cons_succ, i64_w, i32_w]; rfl)
                            refine P1 ?_ 36 62 mk_87 rfl rfl HT_.out (by kernel_rfl) (fun _ _ _ => id) (.inl ⟨by rfl, ?_⟩) ?_ ?_ ?_; rotate_left; (intro w'; go_simp; with_reducible rfl); rotate_left; (simp only [pa, List.set_cons_zero, List.set_cons_succ, i64_w, i32_w]; rfl)
                            refine T1 ?_ 34 60 mk_37 rfl rfl HT_.out HW_.out (by kernel_rfl) (fun _ _ _ => id) (.inl ⟨by rfl, ?_⟩) hHeld ?_ ?_ ?_; rotate_left; (rintro w' ⟨s0, s1, s2, s3, s4, s5, s6, s7, s8, s9, s10, s11, s12, s13, s14, s15, s16, s17, s18, s19, s20, s21, s22, s23, s24, s25, s26, s27, s28, s29⟩; go_simp; with_reducible rfl); rotate_left; (simp only [pa, List.set_cons_zero, List.set_cons_succ, i64_w, i32_w]; rfl)
                            refine P1 ?_ 37 63 mk_38 rfl rfl HT_.out (by kernel_rfl) (fun _ _ _ => id) (.inl ⟨by rfl, ?_⟩) ?_ ?_ ?_; rotate_left; (intro w'; go_simp; with_reducible rfl); rotate_left; (simp only [pa, List.set_cons_zero, List.set_cons_succ, i64_w, i32_w]; rfl)
                            refine P1 ?_ 38 64 mk_39 rfl rfl HT_.out (by kernel_rfl) (fun _ _ _ => id) (.inl ⟨by rfl, ?_⟩) ?_ ?_ ?_; rotate_left; (intro w'; go_simp; with_reducible rfl); rotate_left; (simp only [pa, List.set_cons_zero, List.set_cons_succ, i64_w, i32_w]; rfl)
                            refine P1 ?_ 39 65 mk_40 rfl rfl HT_.out (by kernel_rfl) (fun _ _ _ => id) (.inl ⟨by rfl, ?_⟩) ?_ ?_ ?_; rotate_left; (intro w'; go_simp; with_reducible rfl); rotate_left; (simp only [pa, List.set_cons_zero, List.set_cons_succ, i64_w, i32_w]; rfl)
                            refine P1 ?_ 40 66 mk_41 rfl rfl HT_.out (by kernel_rfl) (fun _ _ _ => id) (.inl ⟨by rfl, ?_⟩) ?_ ?_ ?_; rotate_left; (intro w'; go_simp; with_reducible rfl); rotate_left; (simp only [pa, List.set_cons_zero, List.set_cons_succ, i64_w, i32_w]; rfl)
                            refine P1 ?_ 41 67 mk_42 rfl rfl HT_.out (by kernel_rfl) (fun _ _ _ => id) (.inl ⟨by rfl, ?_⟩) ?_ ?_ ?_; rotate_left; (intro w'; go_simp; with_reducible rfl); rotate_left; (simp only [pa, List.set_cons_zero, List.set_cons_succ, i64_w, i32_w]; rfl)
                            refine P1 ?_ 42 68 mk_43 rfl rfl HT_.out (by kernel_rfl) (fun _ _ _ => id) (.inl ⟨by rfl, ?_⟩) ?_ ?_ ?_; rotate_left; (intro w'; go_simp; with_reducible rfl); rotate_left; (simp only [pa, List.set_cons_zero, List.set_cons_succ, i64_w, i32_w]; rfl)
                            refine P1 ?_ 43 69 mk_44 rfl rfl HT_.out (by kernel_rfl) (fun _ _ _ => id) (.inl ⟨by rfl, ?_⟩) ?_ ?_ ?_; rotate_left; (intro w'; go_simp; with_reducible rfl); rotate_left; (simp only [pa, List.set_cons_zero, List.set_cons_succ, i64_w, i32_w]; rfl)
                            refine P1 ?_ 45 71 mk_88 rfl rfl HT_.out (by kernel_rfl) (fun _ _ _ => id) (.inl ⟨by rfl, ?_⟩) ?_ ?_ ?_; rotate_left; (intro w'; go_simp; with_reducible rfl); rotate_left; (simp only [pa, List.set_cons_zero, List.set_cons_succ, i64_w, i32_w]; rfl)
                            refine P1 ?_ 46 72 mk_89 rfl rfl HT_.out (by kernel_rfl) (fun _ _ _ => id) (.inl ⟨by rfl, ?_⟩) ?_ ?_ ?_; rotate_left; (intro w'; go_simp; with_reducible rfl); rotate_left; (simp only [pa, List.set_cons_zero, List.set_cons_succ, i64_w, i32_w]; rfl)
                            refine P1 ?_ 47 73 mk_90 rfl rfl HT_.out (by kernel_rfl) (fun _ _ _ => id) (.inl ⟨by rfl, ?_⟩) ?_ ?_ ?_; rotate_left; (intro w'; go_simp; with_reducible rfl); rotate_left; (simp only [pa, List.set_cons_zero, List.set_cons_succ, i64_w, i32_w]; rfl)
                            refine P1 ?_ 48 74 mk_91 rfl rfl HT_.out (by kernel_rfl) (fun _ _ _ => id) (.inl ⟨by rfl, ?_⟩) ?_ ?_ ?_; rotate_left; (intro w'; go_simp; with_reducible rfl); rotate_left; (simp only [pa, List.set_cons_zero, List.set_cons_succ, i64_w, i32_w]; rfl)
                            refine T1 ?_ 44 70 mk_49 rfl rfl HT_.out HW_.out (by kernel_rfl) (fun _ _ _ => id) (.inl ⟨by rfl, ?_⟩) hHeld ?_ ?_ ?_; rotate_left; (rintro w' ⟨s0, s1, s2, s3, s4, s5, s6, s7, s8, s9, s10, s11, s12, s13, s14, s15, s16, s17, s18, s19, s20, s21, s22, s23, s24, s25, s26, s27, s28, s29⟩; go_simp; with_reducible rfl); rotate_left; (simp only [pa, List.set_cons_zero, List.set_cons_succ, i64_w, i32_w]; rfl)
                            refine T1 ?_ 49 75 mk_50 rfl rfl HT_.out HW_.out (by kernel_rfl) (fun _ _ _ => id) (.inl ⟨by rfl, ?_⟩) hHeld ?_ ?_ ?_; rotate_left; (rintro w' ⟨s0, s1, s2, s3, s4, s5, s6, s7, s8, s9, s10, s11, s12, s13, s14, s15, s16, s17, s18, s19, s20, s21, s22, s23, s24, s25, s26, s27, s28, s29⟩; go_simp; with_reducible rfl); rotate_left; (simp only [pa, List.set_cons_zero, List.set_cons_succ, i64_w, i32_w]; rfl)
                            refine P1 ?_ 50 76 mk_51 rfl rfl HT_.out (by kernel_rfl) (fun _ _ _ => id) (.inl ⟨by rfl, ?_⟩) ?_ ?_ ?_; rotate_left; (intro w'; go_simp; with_reducible rfl); rotate_left; (simp only [pa, List.set_cons_zero, List.set_cons_succ, i64_w, i32_w]; rfl)
                            refine P1 ?_ 51 77 mk_52 rfl rfl HT_.out (by kernel_rfl) (fun _ _ _ => id) (.inl ⟨by rfl, ?_⟩) ?_ ?_ ?_; rotate_left; (intro w'; go_simp; with_reducible rfl); rotate_left; (simp only [pa, List.set_cons_zero, List.set_cons_succ, i64_w, i32_w]; rfl)
                            refine P1 ?_ 52 78 mk_53 rfl rfl HT_.out (by kernel_rfl) (fun _ _ _ => id) (.inl ⟨by rfl, ?_⟩) ?_ ?_ ?_; rotate_left; (intro w'; go_simp; with_reducible rfl); rotate_left; (simp only [pa, List.set_cons_zero, List.set_cons_succ, i64_w, i32_w]; rfl)
                            refine P1 ?_ 53 79 mk_54 rfl rfl HT_.out (by kernel_rfl) (fun _ _ _ => id) (.inl ⟨by rfl, ?_⟩) ?_ ?_ ?_; rotate_left; (intro w'; go_simp; with_reducible rfl); rotate_left; (simp only [pa, List.set_cons_zero, List.set_cons_succ, i64_w, i32_w]; rfl)
                            refine P1 ?_ 54 80 mk_55 rfl rfl HT_.out (by kernel_rfl) (fun _ _ _ => id) (.inl ⟨by rfl, ?_⟩) ?_ ?_ ?_; rotate_left; (intro w'; go_simp; with_reducible rfl); rotate_left; (simp only [pa, List.set_cons_zero, List.set_cons_succ, i64_w, i32_w]; rfl)
                            refine P1 ?_ 55 81 mk_56 rfl rfl HT_.out (by kernel_rfl) (fun _ _ _ => id) (.inl ⟨by rfl, ?_⟩) ?_ ?_ ?_; rotate_left; (intro w'; go_simp; with_reducible rfl); rotate_left; (simp only [pa, List.set_cons_zero, List.set_cons_succ, i64_w, i32_w]; rfl)
                            refine P1 ?_ 56 82 mk_57 rfl rfl HT_.out (by kernel_rfl) (fun _ _ _ => id) (.inl ⟨by rfl, ?_⟩) ?_ ?_ ?_; rotate_left; (intro w'; go_simp; with_reducible rfl); rotate_left; (simp only [pa, List.set_cons_zero, List.set_cons_succ, i64_w, i32_w]; rfl)
                            refine P1 ?_ 57 83 mk_58 rfl rfl HT_.out (by kernel_rfl) (fun _ _ _ => id) (.inl ⟨by rfl, ?_⟩) ?_ ?_ ?_; rotate_left; (intro w'; go_simp; with_reducible rfl); rotate_left; (simp only [pa, List.set_cons_zero, List.set_cons_succ, i64_w, i32_w]; rfl)
                            refine P1 ?_ 58 84 mk_59 rfl rfl HT_.out (by kernel_rfl) (fun _ _ _ => id) (.inl ⟨by rfl, ?_⟩) ?_ ?_ ?_; rotate_left; (intro w'; go_simp; with_reducible rfl); rotate_left; (simp only [pa, List.set_cons_zero, List.set_cons_succ, i64_w, i32_w]; rfl)
                            refine P1 ?_ 59 85 mk_60 rfl rfl HT_.out (by kernel_rfl) (fun _ _ _ => id) (.inl ⟨by rfl, ?_⟩) ?_ ?_ ?_; rotate_left; (intro w'; go_simp; with_reducible rfl); rotate_left; (simp only [pa, List.set_cons_zero, List.set_cons_succ, i64_w, i32_w]; rfl)
                            refine P1 ?_ 60 86 mk_61 rfl rfl HT_.out (by kernel_rfl) (fun _ _ _ => id) (.inl ⟨by rfl, ?_⟩) ?_ ?_ ?_; rotate_left; (intro w'; go_simp; with_reducible rfl); rotate_left; (simp only [pa, List.set_cons_zero, List.set_cons_succ, i64_w, i32_w]; rfl)
                            refine P1 ?_ 61 87 mk_62 rfl rfl HT_.out (by kernel_rfl) (fun _ _ _ => id) (.inl ⟨by rfl, ?_⟩) ?_ ?_ ?_; rotate_left; (intro w'; go_simp; with_reducible rfl); rotate_left; (simp only [pa, List.set_cons_zero, List.set_cons_succ, i64_w, i32_w]; rfl)
                            refine P1 ?_ 62 88 mk_63 rfl rfl HT_.out (by kernel_rfl) (fun _ _ _ => id) (.inl ⟨by rfl, ?_⟩) ?_ ?_ ?_; rotate_left; (intro w'; go_simp; with_reducible rfl); rotate_left; (simp only [pa, List.set_cons_zero, List.set_cons_succ, i64_w, i32_w]; rfl)
                            refine P1 ?_ 63 89 mk_64 rfl rfl HT_.out (by kernel_rfl) (fun _ _ _ => id) (.inl ⟨by rfl, ?_⟩) ?_ ?_ ?_; rotate_left; (intro w'; go_simp; with_reducible rfl); rotate_left; (simp only [pa, List.set_cons_zero, List.set_cons_succ, i64_w, i32_w]; rfl)
                            refine P1 ?_ 65 91 mk_92 rfl rfl HT_.out (by kernel_rfl) (fun _ _ _ => id) (.inl ⟨by rfl, ?_⟩) ?_ ?_ ?_; rotate_left; (intro w'; go_simp; with_reducible rfl); rotate_left; (simp only [pa, List.set_cons_zero, List.set_cons_succ, i64_w, i32_w]; rfl)
                            refine P1 ?_ 66 92 mk_93 rfl rfl HT_.out (by kernel_rfl) (fun _ _ _ => id) (.inl ⟨by rfl, ?_⟩) ?_ ?_ ?_; rotate_left; (intro w'; go_simp; with_reducible rfl); rotate_left; (simp only [pa, List.set_cons_zero, List.set_cons_succ, i64_w, i32_w]; rfl)
                            refine P1 ?_ 67 93 mk_94 rfl rfl HT_.out (by kernel_rfl) (fun _ _ _ => id) (.inl ⟨by rfl, ?_⟩) ?_ ?_ ?_; rotate_left; (intro w'; go_simp; with_reducible rfl); rotate_left; (simp only [pa, List.set_cons_zero, List.set_cons_succ, i64_w, i32_w]; rfl)
                            refine P1 ?_ 68 94 mk_95 rfl rfl HT_.out (by kernel_rfl) (fun _ _ _ => id) (.inl ⟨by rfl, ?_⟩) ?_ ?_ ?_; rotate_left; (intro w'; go_simp; with_reducible rfl); rotate_left; (simp only [pa, List.set_cons_zero, List.set_cons_succ, i64_w, i32_w]; rfl)
                            refine P1 ?_ 71 97 mk_96 rfl rfl HT_.out (by kernel_rfl) (fun _ _ _ => id) (.inl ⟨by rfl, ?_⟩) ?_ ?_ ?_; rotate_left; (intro w'; go_simp; with_reducible rfl); rotate_left; (simp only [pa, List.set_cons_zero, List.set_cons_succ, i64_w, i32_w]; rfl)
                            refine P1 ?_ 72 98 mk_97 rfl rfl HT_.out (by kernel_rfl) (fun _ _ _ => id) (.inl ⟨by rfl, ?_⟩) ?_ ?_ ?_; rotate_left; (intro w'; go_simp; with_reducible rfl); rotate_left; (simp only [pa, List.set_cons_zero, List.set_cons_succ, i64_w, i32_w]; rfl)
                            refine P1 ?_ 73 99 mk_98 rfl rfl HT_.out (by kernel_rfl) (fun _ _ _ => id) (.inl ⟨by rfl, ?_⟩) ?_ ?_ ?_; rotate_left; (intro w'; go_simp; with_reducible rfl); rotate_left; (simp only [pa, List.set_cons_zero, List.set_cons_succ, i64_w, i32_w]; rfl)
                            refine P1 ?_ 74 100 mk_99 rfl rfl HT_.out (by kernel_rfl) (fun _ _ _ => id) (.inl ⟨by rfl, ?_⟩) ?_ ?_ ?_; rotate_left; (intro w'; go_simp; with_reducible rfl); rotate_left; (simp only [pa, List.set_cons_zero, List.set_cons_succ, i64_w, i32_w]; rfl)
                            refine P1 ?_ 75 101 mk_100 rfl rfl HT_.out (by kernel_rfl) (fun _ _ _ => id) (.inl ⟨by rfl, ?_⟩) ?_ ?_ ?_; rotate_left; (intro w'; go_simp; with_reducible rfl); rotate_left; (simp only [pa, List.set_cons_zero, List.set_cons_succ, i64_w, i32_w]; rfl)
                            refine P1 ?_ 76 102 mk_101 rfl rfl HT_.out (by kernel_rfl) (fun _ _ _ => id) (.inl ⟨by rfl, ?_⟩) ?_ ?_ ?_; rotate_left; (intro w'; go_simp; with_reducible rfl); rotate_left; (simp only [pa, List.set_cons_zero, List.set_cons_succ, i64_w, i32_w]; rfl)
                            refine T1 ?_ 64 90 mk_102 rfl rfl HT_.out HW_.out (by kernel_rfl) (fun _ _ _ => id) (.inl ⟨by rfl, ?_⟩) hHeld ?_ ?_ ?_; rotate_left; (rintro w' ⟨s0, s1, s2, s3, s4, s5, s6, s7, s8, s9, s10, s11, s12, s13, s14, s15, s16, s17, s18, s19, s20, s21, s22, s23, s24, s25, s26, s27, s28, s29⟩; go_simp; with_reducible rfl); rotate_left; (simp only [pa, List.set_cons_zero, List.set_cons_succ, i64_w, i32_w]; rfl)
                            refine T1 ?_ 69 95 mk_103 rfl rfl HT_.out HW_.out (by kernel_rfl) (fun _ _ _ => id) (.inl ⟨by rfl, ?_⟩) hHeld ?_ ?_ ?_; rotate_left; (rintro w' ⟨s0, s1, s2, s3, s4, s5, s6, s7, s8, s9, s10, s11, s12, s13, s14, s15, s16, s17, s18, s19, s20, s21, s22, s23, s24, s25, s26, s27, s28, s29⟩; go_simp; with_reducible rfl); rotate_left; (simp only [pa, List.set_cons_zero, List.set_cons_succ, i64_w, i32_w]; rfl)
                            refine P1 ?_ 70 96 mk_77 rfl rfl HT_.out (by kernel_rfl) (fun _ _ _ => id) (.inl ⟨by rfl, ?_⟩) ?_ ?_ ?_; rotate_left; (intro w'; go_simp; with_reducible rfl); rotate_left; (simp only [pa, List.set_cons_zero, List.set_cons_succ, i64_w, i32_w]; rfl)
                            refine T1 ?_ 77 103 mk_78 rfl rfl HT_.out HW_.out (by kernel_rfl) (fun _ _ _ => id) (.inl ⟨by rfl, ?_⟩) hHeld ?_ ?_ ?_; rotate_left; (rintro w' ⟨s0, s1, s2, s3, s4, s5, s6, s7, s8, s9, s10, s11, s12, s13, s14, s15, s16, s17, s18, s19, s20, s21, s22, s23, s24, s25, s26, s27, s28, s29⟩; go_simp; with_reducible rfl); rotate_left; (simp only [pa, List.set_cons_zero, List.set_cons_succ, i64_w, i32_w]; rfl)
                            refine one_ (i := 78) (N := some 104) mk_79 rfl rfl (one_of HT_.out (by kernel_rfl)) (by decide) (fun K hK => ?_)
                            refine goes_ Tryd.func12 (by kernel_rfl) rfl #[.int .i64 t162, .string a0, .int .i64 ((rd_T27 t163 x8_1).f1)] (by rfl) rfl rfl (by (try simp only [List.map_toArray, List.map_cons, List.map_nil]); first | done | rfl | (simp only [List.length_drop, List.length_take]; rfl)) ?_
                            with_reducible refine (brk_Break.calls k1 t162 a0 ((rd_T27 t163 x8_1).f1) t177 _ A25.out).mono ?_
                            rintro e w' ⟨rfl, ⟨nd, rfl⟩⟩
                            refine ⟨_, rfl, ?_⟩
                            refine hK.out _ _ ⟨hHeld.1, hHeld.2.1, hHeld.2.2.1, hHeld.2.2.2.1, hHeld.2.2.2.2.1, hHeld.2.2.2.2.2.1, hHeld.2.2.2.2.2.2.1, hHeld.2.2.2.2.2.2.2.1, hHeld.2.2.2.2.2.2.2.2.1, hHeld.2.2.2.2.2.2.2.2.2.1, hHeld.2.2.2.2.2.2.2.2.2.2.1, hHeld.2.2.2.2.2.2.2.2.2.2.2.1, hHeld.2.2.2.2.2.2.2.2.2.2.2.2.1, hHeld.2.2.2.2.2.2.2.2.2.2.2.2.2.1, hHeld.2.2.2.2.2.2.2.2.2.2.2.2.2.2.1, hHeld.2.2.2.2.2.2.2.2.2.2.2.2.2.2.2.1, hHeld.2.2.2.2.2.2.2.2.2.2.2.2.2.2.2.2.1, hHeld.2.2.2.2.2.2.2.2.2.2.2.2.2.2.2.2.2.1, hHeld.2.2.2.2.2.2.2.2.2.2.2.2.2.2.2.2.2.2.1, hHeld.2.2.2.2.2.2.2.2.2.2.2.2.2.2.2.2.2.2.2.1, hHeld.2.2.2.2.2.2.2.2.2.2.2.2.2.2.2.2.2.2.2.2.1, hHeld.2.2.2.2.2.2.2.2.2.2.2.2.2.2.2.2.2.2.2.2.2.1, hHeld.2.2.2.2.2.2.2.2.2.2.2.2.2.2.2.2.2.2.2.2.2.2.1, hHeld.2.2.2.2.2.2.2.2.2.2.2.2.2.2.2.2.2.2.2.2.2.2.2.1, hHeld.2.2.2.2.2.2.2.2.2.2.2.2.2.2.2.2.2.2.2.2.2.2.2.2.1, hHeld.2.2.2.2.2.2.2.2.2.2.2.2.2.2.2.2.2.2.2.2.2.2.2.2.2.1, hHeld.2.2.2.2.2.2.2.2.2.2.2.2.2.2.2.2.2.2.2.2.2.2.2.2.2.2.1, hHeld.2.2.2.2.2.2.2.2.2.2.2.2.2.2.2.2.2.2.2.2.2.2.2.2.2.2.2.1, hHeld.2.2.2.2.2.2.2.2.2.2.2.2.2.2.2.2.2.2.2.2.2.2.2.2.2.2.2.2.1, hHeld.2.2.2.2.2.2.2.2.2.2.2.2.2.2.2.2.2.2.2.2.2.2.2.2.2.2.2.2.2⟩ (fun hHeld => ?_)
                            clear hK K
                            refine norm_ (a' := ?_) ?_ ?_
                            rotate_left
                            · show Act.put _ (some 104) _ = _
                              simp only [Act.put, List.setIfInBounds_toArray, List.set_cons_zero, List.set_cons_succ, i64_w, i32_w]
                              rfl
                            refine P1 ?_ 79 105 mk_80 rfl rfl HT_.out (by kernel_rfl) (fun _ _ _ => id) (.inl ⟨by rfl, ?_⟩) ?_ ?_ ?_; rotate_left; (intro w'; go_simp; with_reducible rfl); rotate_left; (simp only [pa, List.set_cons_zero, List.set_cons_succ, i64_w, i32_w]; rfl)
                            refine P1 ?_ 80 106 mk_81 rfl rfl HT_.out (by kernel_rfl) (fun _ _ _ => id) (.inl ⟨by rfl, ?_⟩) ?_ ?_ ?_; rotate_left; (intro w'; go_simp; with_reducible rfl); rotate_left; (simp only [pa, List.set_cons_zero, List.set_cons_succ, i64_w, i32_w]; rfl)
                            refine done_ (done_of HT_.out (by kernel_rfl)) ?_
                            try go_wp2
                            go_meet
                            case rel => exact ⟨_, (((wrap64 (((rd_T27 t163 x8_1).f2) - ((rd_T27 t163 x8_1).f1))) != t177)), (by first | rfl | (simp; done) | (simp [*]; done) | (simp [wrap64]; done)), H', ⟨by have := HK1.out; first | omega | exact Nat.le_refl _⟩, ⟨by (with_reducible repeat (first | apply Kd.R_alloc | apply Kd.R_drewN | apply Kd.R_drew)); exact HO_6.out⟩, ⟨by repeat (first | (with_reducible first | exact HB.out | apply below_alloc | apply pw_below_drewN | apply below_drew1) | exact HB.out)⟩⟩
                        · rw [if_neg c22] at H
                          have c22b0 : (((rd_T27 t163 x8_1).f2) == ((rd_T27 t163 x8_1).f1)) = false := beq_eq_false_iff_ne.mpr c22
                          have c22b1 : (((rd_T27 t163 x8_1).f2) != ((rd_T27 t163 x8_1).f1)) = true := bne_iff_ne.mpr c22
                          replace H := Option.bind_eq_some_iff.mp H
                          obtain ⟨t181, A270, H⟩ := H
                          replace H : (targumlaw2_BrkWhole.j1 k1 a0 t162 t163 x8_1 ((wrap64 (((rd_T27 t163 x8_1).f2) - ((rd_T27 t163 x8_1).f1))) != t181)) = some r := H
                          have A27 := Aside0.mk A270
                          clear A270
                          have H' := Aside0.mk H
                          clear H
                          try go_wp2
                          have n0_ := Aside0.mk (Kd.R_drew HO_6.out)
                          have n1_ := Aside0.mk (below_drew1 HB.out)
                          clear HO_6
                          clear HB
                          have HO_6 := n0_
                          have HB := n1_
                          clear n0_ n1_
                          have p167 : 0 ≤ (x8_1 : Int) := of_decide_eq_true (by first | (with_reducible assumption) | assumption)
                          have q167 : x8_1 < (t163.length : Int) := of_decide_eq_true (by first | (with_reducible assumption) | assumption)
                          obtain ⟨ad167, e167, hx167_0, hx167_1, hx167_2⟩ := at_T27 (Kd.R_reads' HO_6.out).2.2 x8_1 p167 q167
                          cases e167
                          replace p167 := eq_true p167
                          replace q167 := eq_true q167
                          have p168 : 0 ≤ (x8_1 : Int) := of_decide_eq_true (by first | (with_reducible assumption) | assumption)
                          have q168 : x8_1 < (t163.length : Int) := of_decide_eq_true (by first | (with_reducible assumption) | assumption)
                          obtain ⟨ad168, e168, hx168_0, hx168_1, hx168_2⟩ := at_T27 (Kd.R_reads' HO_6.out).2.2 x8_1 p168 q168
                          obtain rfl : ad167 = ad168 := (by injection e168)
                          replace p168 := eq_true p168
                          replace q168 := eq_true q168
                          have p169 : 0 ≤ (x8_1 : Int) := of_decide_eq_true (by first | (with_reducible assumption) | assumption)
                          have q169 : x8_1 < (t163.length : Int) := of_decide_eq_true (by first | (with_reducible assumption) | assumption)
                          obtain ⟨ad169, e169, hx169_0, hx169_1, hx169_2⟩ := at_T27 (Kd.R_reads' HO_6.out).2.2 x8_1 p169 q169
                          obtain rfl : ad167 = ad169 := (by injection e169)
                          replace p169 := eq_true p169
                          replace q169 := eq_true q169
                          have p170 : 0 ≤ (x8_1 : Int) := of_decide_eq_true (by first | (with_reducible assumption) | assumption)
                          have q170 : x8_1 < (t163.length : Int) := of_decide_eq_true (by first | (with_reducible assumption) | assumption)
                          obtain ⟨ad170, e170, hx170_0, hx170_1, hx170_2⟩ := at_T27 (Kd.R_reads' HO_6.out).2.2 x8_1 p170 q170
                          obtain rfl : ad167 = ad170 := (by injection e170)
                          replace p170 := eq_true p170
                          replace q170 := eq_true q170
                          have p171 : 0 ≤ (x8_1 : Int) := of_decide_eq_true (by first | (with_reducible assumption) | assumption)
                          have q171 : x8_1 < (t163.length : Int) := of_decide_eq_true (by first | (with_reducible assumption) | assumption)
                          obtain ⟨ad171, e171, hx171_0, hx171_1, hx171_2⟩ := at_T27 (Kd.R_reads' HO_6.out).2.2 x8_1 p171 q171
                          obtain rfl : ad167 = ad171 := (by injection e171)
                          replace p171 := eq_true p171
                          replace q171 := eq_true q171
                          have p172 : 0 ≤ (x8_1 : Int) := of_decide_eq_true (by first | (with_reducible assumption) | assumption)
                          have q172 : x8_1 < (t163.length : Int) := of_decide_eq_true (by first | (with_reducible assumption) | assumption)
                          obtain ⟨ad172, e172, hx172_0, hx172_1, hx172_2⟩ := at_T27 (Kd.R_reads' HO_6.out).2.2 x8_1 p172 q172
                          obtain rfl : ad167 = ad172 := (by injection e172)
                          replace p172 := eq_true p172
                          replace q172 := eq_true q172
                          have p173 : 0 ≤ (x8_1 : Int) := of_decide_eq_true (by first | (with_reducible assumption) | assumption)
                          have q173 : x8_1 < (t163.length : Int) := of_decide_eq_true (by first | (with_reducible assumption) | assumption)
                          obtain ⟨ad173, e173, hx173_0, hx173_1, hx173_2⟩ := at_T27 (Kd.R_reads' HO_6.out).2.2 x8_1 p173 q173
                          obtain rfl : ad167 = ad173 := (by injection e173)
                          replace p173 := eq_true p173
                          replace q173 := eq_true q173
                          have p178 : 0 ≤ (x8_1 : Int) := of_decide_eq_true (by first | (with_reducible assumption) | assumption)
                          have q178 : x8_1 < (t163.length : Int) := of_decide_eq_true (by first | (with_reducible assumption) | assumption)
                          obtain ⟨ad178, e178, hx178_0, hx178_1, hx178_2⟩ := at_T27 (Kd.R_reads' HO_6.out).2.2 x8_1 p178 q178
                          obtain rfl : ad167 = ad178 := (by injection e178)
                          replace p178 := eq_true p178
                          replace q178 := eq_true q178
                          have p179 : 0 ≤ (x8_1 : Int) := of_decide_eq_true (by first | (with_reducible assumption) | assumption)
                          have q179 : x8_1 < (t163.length : Int) := of_decide_eq_true (by first | (with_reducible assumption) | assumption)
                          obtain ⟨ad179, e179, hx179_0, hx179_1, hx179_2⟩ := at_T27 (Kd.R_reads' HO_6.out).2.2 x8_1 p179 q179
                          obtain rfl : ad167 = ad179 := (by injection e179)
                          replace p179 := eq_true p179
                          replace q179 := eq_true q179
                          have p180 : 0 ≤ (x8_1 : Int) := of_decide_eq_true (by first | (with_reducible assumption) | assumption)
                          have q180 : x8_1 < (t163.length : Int) := of_decide_eq_true (by first | (with_reducible assumption) | assumption)
                          obtain ⟨ad180, e180, hx180_0, hx180_1, hx180_2⟩ := at_T27 (Kd.R_reads' HO_6.out).2.2 x8_1 p180 q180
                          obtain rfl : ad167 = ad180 := (by injection e180)
                          replace p180 := eq_true p180
                          replace q180 := eq_true q180
                          refine start_ (n := 81) (S := fun w' => w'.cell? (ad167.add ((x8_1).toNat * 3)) = some (.int .i64 ((rd_T27 t163 x8_1).f0)) ∧ w'.cell? ⟨(ad167.add ((x8_1).toNat * 3)).block, (ad167.add ((x8_1).toNat * 3)).off + 1, none⟩ = some (.int .i64 ((rd_T27 t163 x8_1).f1)) ∧ w'.cell? ⟨(ad167.add ((x8_1).toNat * 3)).block, (ad167.add ((x8_1).toNat * 3)).off + 2, none⟩ = some (.int .i64 ((rd_T27 t163 x8_1).f2)) ∧ w'.cell? (ad167.add ((x8_1).toNat * 3)) = some (.int .i64 ((rd_T27 t163 x8_1).f0)) ∧ w'.cell? ⟨(ad167.add ((x8_1).toNat * 3)).block, (ad167.add ((x8_1).toNat * 3)).off + 1, none⟩ = some (.int .i64 ((rd_T27 t163 x8_1).f1)) ∧ w'.cell? ⟨(ad167.add ((x8_1).toNat * 3)).block, (ad167.add ((x8_1).toNat * 3)).off + 2, none⟩ = some (.int .i64 ((rd_T27 t163 x8_1).f2)) ∧ w'.cell? (ad167.add ((x8_1).toNat * 3)) = some (.int .i64 ((rd_T27 t163 x8_1).f0)) ∧ w'.cell? ⟨(ad167.add ((x8_1).toNat * 3)).block, (ad167.add ((x8_1).toNat * 3)).off + 1, none⟩ = some (.int .i64 ((rd_T27 t163 x8_1).f1)) ∧ w'.cell? ⟨(ad167.add ((x8_1).toNat * 3)).block, (ad167.add ((x8_1).toNat * 3)).off + 2, none⟩ = some (.int .i64 ((rd_T27 t163 x8_1).f2)) ∧ w'.cell? (ad167.add ((x8_1).toNat * 3)) = some (.int .i64 ((rd_T27 t163 x8_1).f0)) ∧ w'.cell? ⟨(ad167.add ((x8_1).toNat * 3)).block, (ad167.add ((x8_1).toNat * 3)).off + 1, none⟩ = some (.int .i64 ((rd_T27 t163 x8_1).f1)) ∧ w'.cell? ⟨(ad167.add ((x8_1).toNat * 3)).block, (ad167.add ((x8_1).toNat * 3)).off + 2, none⟩ = some (.int .i64 ((rd_T27 t163 x8_1).f2)) ∧ w'.cell? (ad167.add ((x8_1).toNat * 3)) = some (.int .i64 ((rd_T27 t163 x8_1).f0)) ∧ w'.cell? ⟨(ad167.add ((x8_1).toNat * 3)).block, (ad167.add ((x8_1).toNat * 3)).off + 1, none⟩ = some (.int .i64 ((rd_T27 t163 x8_1).f1)) ∧ w'.cell? ⟨(ad167.add ((x8_1).toNat * 3)).block, (ad167.add ((x8_1).toNat * 3)).off + 2, none⟩ = some (.int .i64 ((rd_T27 t163 x8_1).f2)) ∧ w'.cell? (ad167.add ((x8_1).toNat * 3)) = some (.int .i64 ((rd_T27 t163 x8_1).f0)) ∧ w'.cell? ⟨(ad167.add ((x8_1).toNat * 3)).block, (ad167.add ((x8_1).toNat * 3)).off + 1, none⟩ = some (.int .i64 ((rd_T27 t163 x8_1).f1)) ∧ w'.cell? ⟨(ad167.add ((x8_1).toNat * 3)).block, (ad167.add ((x8_1).toNat * 3)).off + 2, none⟩ = some (.int .i64 ((rd_T27 t163 x8_1).f2)) ∧ w'.cell? (ad167.add ((x8_1).toNat * 3)) = some (.int .i64 ((rd_T27 t163 x8_1).f0)) ∧ w'.cell? ⟨(ad167.add ((x8_1).toNat * 3)).block, (ad167.add ((x8_1).toNat * 3)).off + 1, none⟩ = some (.int .i64 ((rd_T27 t163 x8_1).f1)) ∧ w'.cell? ⟨(ad167.add ((x8_1).toNat * 3)).block, (ad167.add ((x8_1).toNat * 3)).off + 2, none⟩ = some (.int .i64 ((rd_T27 t163 x8_1).f2)) ∧ w'.cell? (ad167.add ((x8_1).toNat * 3)) = some (.int .i64 ((rd_T27 t163 x8_1).f0)) ∧ w'.cell? ⟨(ad167.add ((x8_1).toNat * 3)).block, (ad167.add ((x8_1).toNat * 3)).off + 1, none⟩ = some (.int .i64 ((rd_T27 t163 x8_1).f1)) ∧ w'.cell? ⟨(ad167.add ((x8_1).toNat * 3)).block, (ad167.add ((x8_1).toNat * 3)).off + 2, none⟩ = some (.int .i64 ((rd_T27 t163 x8_1).f2)) ∧ w'.cell? (ad167.add ((x8_1).toNat * 3)) = some (.int .i64 ((rd_T27 t163 x8_1).f0)) ∧ w'.cell? ⟨(ad167.add ((x8_1).toNat * 3)).block, (ad167.add ((x8_1).toNat * 3)).off + 1, none⟩ = some (.int .i64 ((rd_T27 t163 x8_1).f1)) ∧ w'.cell? ⟨(ad167.add ((x8_1).toNat * 3)).block, (ad167.add ((x8_1).toNat * 3)).off + 2, none⟩ = some (.int .i64 ((rd_T27 t163 x8_1).f2)) ∧ w'.cell? (ad167.add ((x8_1).toNat * 3)) = some (.int .i64 ((rd_T27 t163 x8_1).f0)) ∧ w'.cell? ⟨(ad167.add ((x8_1).toNat * 3)).block, (ad167.add ((x8_1).toNat * 3)).off + 1, none⟩ = some (.int .i64 ((rd_T27 t163 x8_1).f1)) ∧ w'.cell? ⟨(ad167.add ((x8_1).toNat * 3)).block, (ad167.add ((x8_1).toNat * 3)).off + 2, none⟩ = some (.int .i64 ((rd_T27 t163 x8_1).f2))) (ds := []) mk_0 (by kernel_rfl) rfl rfl ⟨hx167_0, hx167_1, hx167_2, hx168_0, hx168_1, hx168_2, hx169_0, hx169_1, hx169_2, hx170_0, hx170_1, hx170_2, hx171_0, hx171_1, hx171_2, hx172_0, hx172_1, hx172_2, hx173_0, hx173_1, hx173_2, hx178_0, hx178_1, hx178_2, hx179_0, hx179_1, hx179_2, hx180_0, hx180_1, hx180_2⟩ (fun hHeld => ?_); refine with_tabW targumlaw2_BrkWhole.tab11 targumlaw2_BrkWhole.bits11 (fun HT_ HW_ => ?_)
                          generalize wr.drew = w28 at HO_6 HB hx167_0 hx167_1 hx167_2 hx168_0 hx168_1 hx168_2 hx169_0 hx169_1 hx169_2 hx170_0 hx170_1 hx170_2 hx171_0 hx171_1 hx171_2 hx172_0 hx172_1 hx172_2 hx173_0 hx173_1 hx173_2 hx178_0 hx178_1 hx178_2 hx179_0 hx179_1 hx179_2 hx180_0 hx180_1 hx180_2 hHeld ⊢
                          refine P1 ?_ 0 26 mk_1 rfl rfl HT_.out (by kernel_rfl) (fun _ _ _ => id) (.inl ⟨by rfl, ?_⟩) ?_ ?_ ?_; rotate_left; (intro w'; go_simp; with_reducible rfl); rotate_left; (simp only [pa, List.set_cons_zero, List.set_cons_succ, i64_w, i32_w]; rfl)
                          refine P1 ?_ 1 27 mk_2 rfl rfl HT_.out (by kernel_rfl) (fun _ _ _ => id) (.inl ⟨by rfl, ?_⟩) ?_ ?_ ?_; rotate_left; (intro w'; go_simp; with_reducible rfl); rotate_left; (simp only [pa, List.set_cons_zero, List.set_cons_succ, i64_w, i32_w]; rfl)
                          refine P1 ?_ 2 28 mk_3 rfl rfl HT_.out (by kernel_rfl) (fun _ _ _ => id) (.inl ⟨by rfl, ?_⟩) ?_ ?_ ?_; rotate_left; (intro w'; go_simp; with_reducible rfl); rotate_left; (simp only [pa, List.set_cons_zero, List.set_cons_succ, i64_w, i32_w]; rfl)
                          refine P1 ?_ 3 29 mk_4 rfl rfl HT_.out (by kernel_rfl) (fun _ _ _ => id) (.inl ⟨by rfl, ?_⟩) ?_ ?_ ?_; rotate_left; (intro w'; go_simp; with_reducible rfl); rotate_left; (simp only [pa, List.set_cons_zero, List.set_cons_succ, i64_w, i32_w]; rfl)
                          refine P1 ?_ 5 31 mk_5 rfl rfl HT_.out (by kernel_rfl) (fun _ _ _ => id) (.inl ⟨by rfl, ?_⟩) ?_ ?_ ?_; rotate_left; (intro w'; go_simp; with_reducible rfl); rotate_left; (simp only [pa, List.set_cons_zero, List.set_cons_succ, i64_w, i32_w]; rfl)
                          refine T1 ?_ 4 30 mk_6 rfl rfl HT_.out HW_.out (by kernel_rfl) (fun _ _ _ => id) (.inl ⟨by rfl, ?_⟩) hHeld ?_ ?_ ?_; rotate_left; (rintro w' ⟨s0, s1, s2, s3, s4, s5, s6, s7, s8, s9, s10, s11, s12, s13, s14, s15, s16, s17, s18, s19, s20, s21, s22, s23, s24, s25, s26, s27, s28, s29⟩; go_simp; with_reducible rfl); rotate_left; (simp only [pa, List.set_cons_zero, List.set_cons_succ, i64_w, i32_w]; rfl)
                          refine P1 ?_ 6 32 mk_7 rfl rfl HT_.out (by kernel_rfl) (fun _ _ _ => id) (.inl ⟨by rfl, ?_⟩) ?_ ?_ ?_; rotate_left; (intro w'; go_simp; with_reducible rfl); rotate_left; (simp only [pa, List.set_cons_zero, List.set_cons_succ, i64_w, i32_w]; rfl)
                          refine P1 ?_ 7 33 mk_8 rfl rfl HT_.out (by kernel_rfl) (fun _ _ _ => id) (.inl ⟨by rfl, ?_⟩) ?_ ?_ ?_; rotate_left; (intro w'; go_simp; with_reducible rfl); rotate_left; (simp only [pa, List.set_cons_zero, List.set_cons_succ, i64_w, i32_w]; rfl)
                          refine P1 ?_ 8 34 mk_9 rfl rfl HT_.out (by kernel_rfl) (fun _ _ _ => id) (.inl ⟨by rfl, ?_⟩) ?_ ?_ ?_; rotate_left; (intro w'; go_simp; with_reducible rfl); rotate_left; (simp only [pa, List.set_cons_zero, List.set_cons_succ, i64_w, i32_w]; rfl)
                          refine P1 ?_ 9 35 mk_10 rfl rfl HT_.out (by kernel_rfl) (fun _ _ _ => id) (.inl ⟨by rfl, ?_⟩) ?_ ?_ ?_; rotate_left; (intro w'; go_simp; with_reducible rfl); rotate_left; (simp only [pa, List.set_cons_zero, List.set_cons_succ, i64_w, i32_w]; rfl)
                          refine P1 ?_ 10 36 mk_11 rfl rfl HT_.out (by kernel_rfl) (fun _ _ _ => id) (.inl ⟨by rfl, ?_⟩) ?_ ?_ ?_; rotate_left; (intro w'; go_simp; with_reducible rfl); rotate_left; (simp only [pa, List.set_cons_zero, List.set_cons_succ, i64_w, i32_w]; rfl)
                          refine P1 ?_ 11 37 mk_12 rfl rfl HT_.out (by kernel_rfl) (fun _ _ _ => id) (.inl ⟨by rfl, ?_⟩) ?_ ?_ ?_; rotate_left; (intro w'; go_simp; with_reducible rfl); rotate_left; (simp only [pa, List.set_cons_zero, List.set_cons_succ, i64_w, i32_w]; rfl)
                          refine P1 ?_ 13 39 mk_13 rfl rfl HT_.out (by kernel_rfl) (fun _ _ _ => id) (.inl ⟨by rfl, ?_⟩) ?_ ?_ ?_; rotate_left; (intro w'; go_simp; with_reducible rfl); rotate_left; (simp only [pa, List.set_cons_zero, List.set_cons_succ, i64_w, i32_w]; rfl)
                          refine T1 ?_ 12 38 mk_14 rfl rfl HT_.out HW_.out (by kernel_rfl) (fun _ _ _ => id) (.inl ⟨by rfl, ?_⟩) hHeld ?_ ?_ ?_; rotate_left; (rintro w' ⟨s0, s1, s2, s3, s4, s5, s6, s7, s8, s9, s10, s11, s12, s13, s14, s15, s16, s17, s18, s19, s20, s21, s22, s23, s24, s25, s26, s27, s28, s29⟩; go_simp; with_reducible rfl); rotate_left; (simp only [pa, List.set_cons_zero, List.set_cons_succ, i64_w, i32_w]; rfl)
                          refine P1 ?_ 14 40 mk_15 rfl rfl HT_.out (by kernel_rfl) (fun _ _ _ => id) (.inl ⟨by rfl, ?_⟩) ?_ ?_ ?_; rotate_left; (intro w'; go_simp; with_reducible rfl); rotate_left; (simp only [pa, List.set_cons_zero, List.set_cons_succ, i64_w, i32_w]; rfl)
                          refine P1 ?_ 15 41 mk_16 rfl rfl HT_.out (by kernel_rfl) (fun _ _ _ => id) (.inl ⟨by rfl, ?_⟩) ?_ ?_ ?_; rotate_left; (intro w'; go_simp; with_reducible rfl); rotate_left; (simp only [pa, List.set_cons_zero, List.set_cons_succ, i64_w, i32_w]; rfl)
                          refine P1 ?_ 16 42 mk_17 rfl rfl HT_.out (by kernel_rfl) (fun _ _ _ => id) (.inl ⟨by rfl, ?_⟩) ?_ ?_ ?_; rotate_left; (intro w'; go_simp; with_reducible rfl); rotate_left; (simp only [pa, List.set_cons_zero, List.set_cons_succ, i64_w, i32_w]; rfl)
                          refine P1 ?_ 17 43 mk_18 rfl rfl HT_.out (by kernel_rfl) (fun _ _ _ => id) (.inl ⟨by rfl, ?_⟩) ?_ ?_ ?_; rotate_left; (intro w'; go_simp; with_reducible rfl); rotate_left; (simp only [pa, List.set_cons_zero, List.set_cons_succ, i64_w, i32_w]; rfl)
                          refine P1 ?_ 18 44 mk_19 rfl rfl HT_.out (by kernel_rfl) (fun _ _ _ => id) (.inl ⟨by rfl, ?_⟩) ?_ ?_ ?_; rotate_left; (intro w'; go_simp; with_reducible rfl); rotate_left; (simp only [pa, List.set_cons_zero, List.set_cons_succ, i64_w, i32_w]; rfl)
                          refine P1 ?_ 19 45 mk_20 rfl rfl HT_.out (by kernel_rfl) (fun _ _ _ => id) (.inl ⟨by rfl, ?_⟩) ?_ ?_ ?_; rotate_left; (intro w'; go_simp; with_reducible rfl); rotate_left; (simp only [pa, List.set_cons_zero, List.set_cons_succ, i64_w, i32_w]; rfl)
                          refine P1 ?_ 20 46 mk_21 rfl rfl HT_.out (by kernel_rfl) (fun _ _ _ => id) (.inl ⟨by rfl, ?_⟩) ?_ ?_ ?_; rotate_left; (intro w'; go_simp; with_reducible rfl); rotate_left; (simp only [pa, List.set_cons_zero, List.set_cons_succ, i64_w, i32_w]; rfl)
                          refine P1 ?_ 22 48 mk_82 rfl rfl HT_.out (by kernel_rfl) (fun _ _ _ => id) (.inl ⟨by rfl, ?_⟩) ?_ ?_ ?_; rotate_left; (intro w'; go_simp; with_reducible rfl); rotate_left; (simp only [pa, List.set_cons_zero, List.set_cons_succ, i64_w, i32_w]; rfl)
                          refine P1 ?_ 23 49 mk_83 rfl rfl HT_.out (by kernel_rfl) (fun _ _ _ => id) (.inl ⟨by rfl, ?_⟩) ?_ ?_ ?_; rotate_left; (intro w'; go_simp; with_reducible rfl); rotate_left; (simp only [pa, List.set_cons_zero, List.set_cons_succ, i64_w, i32_w]; rfl)
                          refine P1 ?_ 24 50 mk_84 rfl rfl HT_.out (by kernel_rfl) (fun _ _ _ => id) (.inl ⟨by rfl, ?_⟩) ?_ ?_ ?_; rotate_left; (intro w'; go_simp; with_reducible rfl); rotate_left; (simp only [pa, List.set_cons_zero, List.set_cons_succ, i64_w, i32_w]; rfl)
                          refine P1 ?_ 25 51 mk_85 rfl rfl HT_.out (by kernel_rfl) (fun _ _ _ => id) (.inl ⟨by rfl, ?_⟩) ?_ ?_ ?_; rotate_left; (intro w'; go_simp; with_reducible rfl); rotate_left; (simp only [pa, List.set_cons_zero, List.set_cons_succ, i64_w, i32_w]; rfl)
                          refine T1 ?_ 21 47 mk_26 rfl rfl HT_.out HW_.out (by kernel_rfl) (fun _ _ _ => id) (.inl ⟨by rfl, ?_⟩) hHeld ?_ ?_ ?_; rotate_left; (rintro w' ⟨s0, s1, s2, s3, s4, s5, s6, s7, s8, s9, s10, s11, s12, s13, s14, s15, s16, s17, s18, s19, s20, s21, s22, s23, s24, s25, s26, s27, s28, s29⟩; go_simp; with_reducible rfl); rotate_left; (simp only [pa, List.set_cons_zero, List.set_cons_succ, i64_w, i32_w]; rfl)
                          refine T1 ?_ 26 52 mk_27 rfl rfl HT_.out HW_.out (by kernel_rfl) (fun _ _ _ => id) (.inl ⟨by rfl, ?_⟩) hHeld ?_ ?_ ?_; rotate_left; (rintro w' ⟨s0, s1, s2, s3, s4, s5, s6, s7, s8, s9, s10, s11, s12, s13, s14, s15, s16, s17, s18, s19, s20, s21, s22, s23, s24, s25, s26, s27, s28, s29⟩; go_simp; with_reducible rfl); rotate_left; (simp only [pa, List.set_cons_zero, List.set_cons_succ, i64_w, i32_w]; rfl)
                          refine P1 ?_ 27 53 mk_28 rfl rfl HT_.out (by kernel_rfl) (fun _ _ _ => id) (.inl ⟨by rfl, ?_⟩) ?_ ?_ ?_; rotate_left; (intro w'; go_simp; with_reducible rfl); rotate_left; (simp only [pa, List.set_cons_zero, List.set_cons_succ, i64_w, i32_w]; rfl)
                          refine P1 ?_ 28 54 mk_29 rfl rfl HT_.out (by kernel_rfl) (fun _ _ _ => id) (.inl ⟨by rfl, ?_⟩) ?_ ?_ ?_; rotate_left; (intro w'; go_simp; with_reducible rfl); rotate_left; (simp only [pa, List.set_cons_zero, List.set_cons_succ, i64_w, i32_w]; rfl)
                          refine P1 ?_ 29 55 mk_30 rfl rfl HT_.out (by kernel_rfl) (fun _ _ _ => id) (.inl ⟨by rfl, ?_⟩) ?_ ?_ ?_; rotate_left; (intro w'; go_simp; with_reducible rfl); rotate_left; (simp only [pa, List.set_cons_zero, List.set_cons_succ, i64_w, i32_w]; rfl)
                          refine P1 ?_ 30 56 mk_31 rfl rfl HT_.out (by kernel_rfl) (fun _ _ _ => id) (.inl ⟨by rfl, ?_⟩) ?_ ?_ ?_; rotate_left; (intro w'; go_simp; with_reducible rfl); rotate_left; (simp only [pa, List.set_cons_zero, List.set_cons_succ, i64_w, i32_w]; rfl)
                          refine P1 ?_ 31 57 mk_32 rfl rfl HT_.out (by kernel_rfl) (fun _ _ _ => id) (.inl ⟨by rfl, ?_⟩) ?_ ?_ ?_; rotate_left; (intro w'; go_simp; with_reducible rfl); rotate_left; (simp only [pa, List.set_cons_zero, List.set_cons_succ, i64_w, i32_w]; rfl)
                          refine P1 ?_ 32 58 mk_33 rfl rfl HT_.out (by kernel_rfl) (fun _ _ _ => id) (.inl ⟨by rfl, ?_⟩) ?_ ?_ ?_; rotate_left; (intro w'; go_simp; with_reducible rfl); rotate_left; (simp only [pa, List.set_cons_zero, List.set_cons_succ, i64_w, i32_w]; rfl)
                          refine P1 ?_ 33 59 mk_34 rfl rfl HT_.out (by kernel_rfl) (fun _ _ _ => id) (.inl ⟨by rfl, ?_⟩) ?_ ?_ ?_; rotate_left; (intro w'; go_simp; with_reducible rfl); rotate_left; (simp only [pa, List.set_cons_zero, List.set_cons_succ, i64_w, i32_w]; rfl)
                          refine P1 ?_ 35 61 mk_86 rfl rfl HT_.out (by kernel_rfl) (fun _ _ _ => id) (.inl ⟨by rfl, ?_⟩) ?_ ?_ ?_; rotate_left; (intro w'; go_simp; with_reducible rfl); rotate_left; (simp only [pa, List.set_cons_zero, List.set_cons_succ, i64_w, i32_w]; rfl)
                          refine P1 ?_ 36 62 mk_87 rfl rfl HT_.out (by kernel_rfl) (fun _ _ _ => id) (.inl ⟨by rfl, ?_⟩) ?_ ?_ ?_; rotate_left; (intro w'; go_simp; with_reducible rfl); rotate_left; (simp only [pa, List.set_cons_zero, List.set_cons_succ, i64_w, i32_w]; rfl)
                          refine T1 ?_ 34 60 mk_37 rfl rfl HT_.out HW_.out (by kernel_rfl) (fun _ _ _ => id) (.inl ⟨by rfl, ?_⟩) hHeld ?_ ?_ ?_; rotate_left; (rintro w' ⟨s0, s1, s2, s3, s4, s5, s6, s7, s8, s9, s10, s11, s12, s13, s14, s15, s16, s17, s18, s19, s20, s21, s22, s23, s24, s25, s26, s27, s28, s29⟩; go_simp; with_reducible rfl); rotate_left; (simp only [pa, List.set_cons_zero, List.set_cons_succ, i64_w, i32_w]; rfl)
                          refine P1 ?_ 37 63 mk_38 rfl rfl HT_.out (by kernel_rfl) (fun _ _ _ => id) (.inl ⟨by rfl, ?_⟩) ?_ ?_ ?_; rotate_left; (intro w'; go_simp; with_reducible rfl); rotate_left; (simp only [pa, List.set_cons_zero, List.set_cons_succ, i64_w, i32_w]; rfl)
                          refine P1 ?_ 38 64 mk_39 rfl rfl HT_.out (by kernel_rfl) (fun _ _ _ => id) (.inl ⟨by rfl, ?_⟩) ?_ ?_ ?_; rotate_left; (intro w'; go_simp; with_reducible rfl); rotate_left; (simp only [pa, List.set_cons_zero, List.set_cons_succ, i64_w, i32_w]; rfl)
                          refine P1 ?_ 39 65 mk_40 rfl rfl HT_.out (by kernel_rfl) (fun _ _ _ => id) (.inl ⟨by rfl, ?_⟩) ?_ ?_ ?_; rotate_left; (intro w'; go_simp; with_reducible rfl); rotate_left; (simp only [pa, List.set_cons_zero, List.set_cons_succ, i64_w, i32_w]; rfl)
                          refine P1 ?_ 40 66 mk_41 rfl rfl HT_.out (by kernel_rfl) (fun _ _ _ => id) (.inl ⟨by rfl, ?_⟩) ?_ ?_ ?_; rotate_left; (intro w'; go_simp; with_reducible rfl); rotate_left; (simp only [pa, List.set_cons_zero, List.set_cons_succ, i64_w, i32_w]; rfl)
                          refine P1 ?_ 41 67 mk_42 rfl rfl HT_.out (by kernel_rfl) (fun _ _ _ => id) (.inl ⟨by rfl, ?_⟩) ?_ ?_ ?_; rotate_left; (intro w'; go_simp; with_reducible rfl); rotate_left; (simp only [pa, List.set_cons_zero, List.set_cons_succ, i64_w, i32_w]; rfl)
                          refine P1 ?_ 42 68 mk_43 rfl rfl HT_.out (by kernel_rfl) (fun _ _ _ => id) (.inl ⟨by rfl, ?_⟩) ?_ ?_ ?_; rotate_left; (intro w'; go_simp; with_reducible rfl); rotate_left; (simp only [pa, List.set_cons_zero, List.set_cons_succ, i64_w, i32_w]; rfl)
                          refine P1 ?_ 43 69 mk_44 rfl rfl HT_.out (by kernel_rfl) (fun _ _ _ => id) (.inl ⟨by rfl, ?_⟩) ?_ ?_ ?_; rotate_left; (intro w'; go_simp; with_reducible rfl); rotate_left; (simp only [pa, List.set_cons_zero, List.set_cons_succ, i64_w, i32_w]; rfl)
                          refine P1 ?_ 45 71 mk_88 rfl rfl HT_.out (by kernel_rfl) (fun _ _ _ => id) (.inl ⟨by rfl, ?_⟩) ?_ ?_ ?_; rotate_left; (intro w'; go_simp; with_reducible rfl); rotate_left; (simp only [pa, List.set_cons_zero, List.set_cons_succ, i64_w, i32_w]; rfl)
                          refine P1 ?_ 46 72 mk_89 rfl rfl HT_.out (by kernel_rfl) (fun _ _ _ => id) (.inl ⟨by rfl, ?_⟩) ?_ ?_ ?_; rotate_left; (intro w'; go_simp; with_reducible rfl); rotate_left; (simp only [pa, List.set_cons_zero, List.set_cons_succ, i64_w, i32_w]; rfl)
                          refine P1 ?_ 47 73 mk_90 rfl rfl HT_.out (by kernel_rfl) (fun _ _ _ => id) (.inl ⟨by rfl, ?_⟩) ?_ ?_ ?_; rotate_left; (intro w'; go_simp; with_reducible rfl); rotate_left; (simp only [pa, List.set_cons_zero, List.set_cons_succ, i64_w, i32_w]; rfl)
                          refine P1 ?_ 48 74 mk_91 rfl rfl HT_.out (by kernel_rfl) (fun _ _ _ => id) (.inl ⟨by rfl, ?_⟩) ?_ ?_ ?_; rotate_left; (intro w'; go_simp; with_reducible rfl); rotate_left; (simp only [pa, List.set_cons_zero, List.set_cons_succ, i64_w, i32_w]; rfl)
                          refine T1 ?_ 44 70 mk_49 rfl rfl HT_.out HW_.out (by kernel_rfl) (fun _ _ _ => id) (.inl ⟨by rfl, ?_⟩) hHeld ?_ ?_ ?_; rotate_left; (rintro w' ⟨s0, s1, s2, s3, s4, s5, s6, s7, s8, s9, s10, s11, s12, s13, s14, s15, s16, s17, s18, s19, s20, s21, s22, s23, s24, s25, s26, s27, s28, s29⟩; go_simp; with_reducible rfl); rotate_left; (simp only [pa, List.set_cons_zero, List.set_cons_succ, i64_w, i32_w]; rfl)
                          refine T1 ?_ 49 75 mk_50 rfl rfl HT_.out HW_.out (by kernel_rfl) (fun _ _ _ => id) (.inl ⟨by rfl, ?_⟩) hHeld ?_ ?_ ?_; rotate_left; (rintro w' ⟨s0, s1, s2, s3, s4, s5, s6, s7, s8, s9, s10, s11, s12, s13, s14, s15, s16, s17, s18, s19, s20, s21, s22, s23, s24, s25, s26, s27, s28, s29⟩; go_simp; with_reducible rfl); rotate_left; (simp only [pa, List.set_cons_zero, List.set_cons_succ, i64_w, i32_w]; rfl)
                          refine P1 ?_ 50 76 mk_51 rfl rfl HT_.out (by kernel_rfl) (fun _ _ _ => id) (.inl ⟨by rfl, ?_⟩) ?_ ?_ ?_; rotate_left; (intro w'; go_simp; with_reducible rfl); rotate_left; (simp only [pa, List.set_cons_zero, List.set_cons_succ, i64_w, i32_w]; rfl)
                          refine P1 ?_ 51 77 mk_52 rfl rfl HT_.out (by kernel_rfl) (fun _ _ _ => id) (.inl ⟨by rfl, ?_⟩) ?_ ?_ ?_; rotate_left; (intro w'; go_simp; with_reducible rfl); rotate_left; (simp only [pa, List.set_cons_zero, List.set_cons_succ, i64_w, i32_w]; rfl)
                          refine P1 undef 52 78 mk_53 rfl rfl HT_.out (by kernel_rfl) (fun _ _ _ => id) (.inr ⟨by rfl, rfl⟩) ?_ ?_ ?_; rotate_left; (simp only [pa, List.set_cons_zero, List.set_cons_succ, i64_w, i32_w]; rfl)
                          refine P1 undef 53 79 mk_54 rfl rfl HT_.out (by kernel_rfl) (fun _ _ _ => id) (.inr ⟨by rfl, rfl⟩) ?_ ?_ ?_; rotate_left; (simp only [pa, List.set_cons_zero, List.set_cons_succ, i64_w, i32_w]; rfl)
                          refine P1 undef 54 80 mk_55 rfl rfl HT_.out (by kernel_rfl) (fun _ _ _ => id) (.inr ⟨by rfl, rfl⟩) ?_ ?_ ?_; rotate_left; (simp only [pa, List.set_cons_zero, List.set_cons_succ, i64_w, i32_w]; rfl)
                          refine P1 undef 55 81 mk_56 rfl rfl HT_.out (by kernel_rfl) (fun _ _ _ => id) (.inr ⟨by rfl, rfl⟩) ?_ ?_ ?_; rotate_left; (simp only [pa, List.set_cons_zero, List.set_cons_succ, i64_w, i32_w]; rfl)
                          refine P1 undef 56 82 mk_57 rfl rfl HT_.out (by kernel_rfl) (fun _ _ _ => id) (.inr ⟨by rfl, rfl⟩) ?_ ?_ ?_; rotate_left; (simp only [pa, List.set_cons_zero, List.set_cons_succ, i64_w, i32_w]; rfl)
                          refine P1 ?_ 57 83 mk_58 rfl rfl HT_.out (by kernel_rfl) (fun _ _ _ => id) (.inl ⟨by rfl, ?_⟩) ?_ ?_ ?_; rotate_left; (intro w'; go_simp; with_reducible rfl); rotate_left; (simp only [pa, List.set_cons_zero, List.set_cons_succ, i64_w, i32_w]; rfl)
                          refine P1 ?_ 58 84 mk_59 rfl rfl HT_.out (by kernel_rfl) (fun _ _ _ => id) (.inl ⟨by rfl, ?_⟩) ?_ ?_ ?_; rotate_left; (intro w'; go_simp; with_reducible rfl); rotate_left; (simp only [pa, List.set_cons_zero, List.set_cons_succ, i64_w, i32_w]; rfl)
                          refine P1 ?_ 59 85 mk_60 rfl rfl HT_.out (by kernel_rfl) (fun _ _ _ => id) (.inl ⟨by rfl, ?_⟩) ?_ ?_ ?_; rotate_left; (intro w'; go_simp; with_reducible rfl); rotate_left; (simp only [pa, List.set_cons_zero, List.set_cons_succ, i64_w, i32_w]; rfl)
                          refine P1 ?_ 60 86 mk_61 rfl rfl HT_.out (by kernel_rfl) (fun _ _ _ => id) (.inl ⟨by rfl, ?_⟩) ?_ ?_ ?_; rotate_left; (intro w'; go_simp; with_reducible rfl); rotate_left; (simp only [pa, List.set_cons_zero, List.set_cons_succ, i64_w, i32_w]; rfl)
                          refine P1 ?_ 61 87 mk_62 rfl rfl HT_.out (by kernel_rfl) (fun _ _ _ => id) (.inl ⟨by rfl, ?_⟩) ?_ ?_ ?_; rotate_left; (intro w'; go_simp; with_reducible rfl); rotate_left; (simp only [pa, List.set_cons_zero, List.set_cons_succ, i64_w, i32_w]; rfl)
                          refine P1 ?_ 62 88 mk_63 rfl rfl HT_.out (by kernel_rfl) (fun _ _ _ => id) (.inl ⟨by rfl, ?_⟩) ?_ ?_ ?_; rotate_left; (intro w'; go_simp; with_reducible rfl); rotate_left; (simp only [pa, List.set_cons_zero, List.set_cons_succ, i64_w, i32_w]; rfl)
                          refine P1 ?_ 63 89 mk_64 rfl rfl HT_.out (by kernel_rfl) (fun _ _ _ => id) (.inl ⟨by rfl, ?_⟩) ?_ ?_ ?_; rotate_left; (intro w'; go_simp; with_reducible rfl); rotate_left; (simp only [pa, List.set_cons_zero, List.set_cons_succ, i64_w, i32_w]; rfl)
                          refine P1 ?_ 65 91 mk_92 rfl rfl HT_.out (by kernel_rfl) (fun _ _ _ => id) (.inl ⟨by rfl, ?_⟩) ?_ ?_ ?_; rotate_left; (intro w'; go_simp; with_reducible rfl); rotate_left; (simp only [pa, List.set_cons_zero, List.set_cons_succ, i64_w, i32_w]; rfl)
                          refine P1 ?_ 66 92 mk_93 rfl rfl HT_.out (by kernel_rfl) (fun _ _ _ => id) (.inl ⟨by rfl, ?_⟩) ?_ ?_ ?_; rotate_left; (intro w'; go_simp; with_reducible rfl); rotate_left; (simp only [pa, List.set_cons_zero, List.set_cons_succ, i64_w, i32_w]; rfl)
                          refine P1 ?_ 67 93 mk_94 rfl rfl HT_.out (by kernel_rfl) (fun _ _ _ => id) (.inl ⟨by rfl, ?_⟩) ?_ ?_ ?_; rotate_left; (intro w'; go_simp; with_reducible rfl); rotate_left; (simp only [pa, List.set_cons_zero, List.set_cons_succ, i64_w, i32_w]; rfl)
                          refine P1 ?_ 68 94 mk_95 rfl rfl HT_.out (by kernel_rfl) (fun _ _ _ => id) (.inl ⟨by rfl, ?_⟩) ?_ ?_ ?_; rotate_left; (intro w'; go_simp; with_reducible rfl); rotate_left; (simp only [pa, List.set_cons_zero, List.set_cons_succ, i64_w, i32_w]; rfl)
                          refine P1 ?_ 71 97 mk_96 rfl rfl HT_.out (by kernel_rfl) (fun _ _ _ => id) (.inl ⟨by rfl, ?_⟩) ?_ ?_ ?_; rotate_left; (intro w'; go_simp; with_reducible rfl); rotate_left; (simp only [pa, List.set_cons_zero, List.set_cons_succ, i64_w, i32_w]; rfl)
                          refine P1 ?_ 72 98 mk_97 rfl rfl HT_.out (by kernel_rfl) (fun _ _ _ => id) (.inl ⟨by rfl, ?_⟩) ?_ ?_ ?_; rotate_left; (intro w'; go_simp; with_reducible rfl); rotate_left; (simp only [pa, List.set_cons_zero, List.set_cons_succ, i64_w, i32_w]; rfl)
                          refine P1 ?_ 73 99 mk_98 rfl rfl HT_.out (by kernel_rfl) (fun _ _ _ => id) (.inl ⟨by rfl, ?_⟩) ?_ ?_ ?_; rotate_left; (intro w'; go_simp; with_reducible rfl); rotate_left; (simp only [pa, List.set_cons_zero, List.set_cons_succ, i64_w, i32_w]; rfl)
                          refine P1 ?_ 74 100 mk_99 rfl rfl HT_.out (by kernel_rfl) (fun _ _ _ => id) (.inl ⟨by rfl, ?_⟩) ?_ ?_ ?_; rotate_left; (intro w'; go_simp; with_reducible rfl); rotate_left; (simp only [pa, List.set_cons_zero, List.set_cons_succ, i64_w, i32_w]; rfl)
                          refine P1 ?_ 75 101 mk_100 rfl rfl HT_.out (by kernel_rfl) (fun _ _ _ => id) (.inl ⟨by rfl, ?_⟩) ?_ ?_ ?_; rotate_left; (intro w'; go_simp; with_reducible rfl); rotate_left; (simp only [pa, List.set_cons_zero, List.set_cons_succ, i64_w, i32_w]; rfl)
                          refine P1 ?_ 76 102 mk_101 rfl rfl HT_.out (by kernel_rfl) (fun _ _ _ => id) (.inl ⟨by rfl, ?_⟩) ?_ ?_ ?_; rotate_left; (intro w'; go_simp; with_reducible rfl); rotate_left; (simp only [pa, List.set_cons_zero, List.set_cons_succ, i64_w, i32_w]; rfl)
                          refine T1 ?_ 64 90 mk_102 rfl rfl HT_.out HW_.out (by kernel_rfl) (fun _ _ _ => id) (.inl ⟨by rfl, ?_⟩) hHeld ?_ ?_ ?_; rotate_left; (rintro w' ⟨s0, s1, s2, s3, s4, s5, s6, s7, s8, s9, s10, s11, s12, s13, s14, s15, s16, s17, s18, s19, s20, s21, s22, s23, s24, s25, s26, s27, s28, s29⟩; go_simp; with_reducible rfl); rotate_left; (simp only [pa, List.set_cons_zero, List.set_cons_succ, i64_w, i32_w]; rfl)
                          refine T1 ?_ 69 95 mk_103 rfl rfl HT_.out HW_.out (by kernel_rfl) (fun _ _ _ => id) (.inl ⟨by rfl, ?_⟩) hHeld ?_ ?_ ?_; rotate_left; (rintro w' ⟨s0, s1, s2, s3, s4, s5, s6, s7, s8, s9, s10, s11, s12, s13, s14, s15, s16, s17, s18, s19, s20, s21, s22, s23, s24, s25, s26, s27, s28, s29⟩; go_simp; with_reducible rfl); rotate_left; (simp only [pa, List.set_cons_zero, List.set_cons_succ, i64_w, i32_w]; rfl)
                          refine P1 ?_ 70 96 mk_77 rfl rfl HT_.out (by kernel_rfl) (fun _ _ _ => id) (.inl ⟨by rfl, ?_⟩) ?_ ?_ ?_; rotate_left; (intro w'; go_simp; with_reducible rfl); rotate_left; (simp only [pa, List.set_cons_zero, List.set_cons_succ, i64_w, i32_w]; rfl)
                          refine T1 ?_ 77 103 mk_78 rfl rfl HT_.out HW_.out (by kernel_rfl) (fun _ _ _ => id) (.inl ⟨by rfl, ?_⟩) hHeld ?_ ?_ ?_; rotate_left; (rintro w' ⟨s0, s1, s2, s3, s4, s5, s6, s7, s8, s9, s10, s11, s12, s13, s14, s15, s16, s17, s18, s19, s20, s21, s22, s23, s24, s25, s26, s27, s28, s29⟩; go_simp; with_reducible rfl); rotate_left; (simp only [pa, List.set_cons_zero, List.set_cons_succ, i64_w, i32_w]; rfl)
                          refine one_ (i := 78) (N := some 104) mk_79 rfl rfl (one_of HT_.out (by kernel_rfl)) (by decide) (fun K hK => ?_)
                          refine goes_ Tryd.func12 (by kernel_rfl) rfl #[.int .i64 t162, .string a0, .int .i64 ((rd_T27 t163 x8_1).f1)] (by rfl) rfl rfl (by (try simp only [List.map_toArray, List.map_cons, List.map_nil]); first | done | rfl | (simp only [List.length_drop, List.length_take]; rfl)) ?_
                          with_reducible refine (brk_Break.calls k1 t162 a0 ((rd_T27 t163 x8_1).f1) t181 _ A27.out).mono ?_
                          rintro e w' ⟨rfl, ⟨nd, rfl⟩⟩
                          refine ⟨_, rfl, ?_⟩
                          refine hK.out _ _ ⟨hHeld.1, hHeld.2.1, hHeld.2.2.1, hHeld.2.2.2.1, hHeld.2.2.2.2.1, hHeld.2.2.2.2.2.1, hHeld.2.2.2.2.2.2.1, hHeld.2.2.2.2.2.2.2.1, hHeld.2.2.2.2.2.2.2.2.1, hHeld.2.2.2.2.2.2.2.2.2.1, hHeld.2.2.2.2.2.2.2.2.2.2.1, hHeld.2.2.2.2.2.2.2.2.2.2.2.1, hHeld.2.2.2.2.2.2.2.2.2.2.2.2.1, hHeld.2.2.2.2.2.2.2.2.2.2.2.2.2.1, hHeld.2.2.2.2.2.2.2.2.2.2.2.2.2.2.1, hHeld.2.2.2.2.2.2.2.2.2.2.2.2.2.2.2.1, hHeld.2.2.2.2.2.2.2.2.2.2.2.2.2.2.2.2.1, hHeld.2.2.2.2.2.2.2.2.2.2.2.2.2.2.2.2.2.1, hHeld.2.2.2.2.2.2.2.2.2.2.2.2.2.2.2.2.2.2.1, hHeld.2.2.2.2.2.2.2.2.2.2.2.2.2.2.2.2.2.2.2.1, hHeld.2.2.2.2.2.2.2.2.2.2.2.2.2.2.2.2.2.2.2.2.1, hHeld.2.2.2.2.2.2.2.2.2.2.2.2.2.2.2.2.2.2.2.2.2.1, hHeld.2.2.2.2.2.2.2.2.2.2.2.2.2.2.2.2.2.2.2.2.2.2.1, hHeld.2.2.2.2.2.2.2.2.2.2.2.2.2.2.2.2.2.2.2.2.2.2.2.1, hHeld.2.2.2.2.2.2.2.2.2.2.2.2.2.2.2.2.2.2.2.2.2.2.2.2.1, hHeld.2.2.2.2.2.2.2.2.2.2.2.2.2.2.2.2.2.2.2.2.2.2.2.2.2.1, hHeld.2.2.2.2.2.2.2.2.2.2.2.2.2.2.2.2.2.2.2.2.2.2.2.2.2.2.1, hHeld.2.2.2.2.2.2.2.2.2.2.2.2.2.2.2.2.2.2.2.2.2.2.2.2.2.2.2.1, hHeld.2.2.2.2.2.2.2.2.2.2.2.2.2.2.2.2.2.2.2.2.2.2.2.2.2.2.2.2.1, hHeld.2.2.2.2.2.2.2.2.2.2.2.2.2.2.2.2.2.2.2.2.2.2.2.2.2.2.2.2.2⟩ (fun hHeld => ?_)
                          clear hK K
                          refine norm_ (a' := ?_) ?_ ?_
                          rotate_left
                          · show Act.put _ (some 104) _ = _
                            simp only [Act.put, List.setIfInBounds_toArray, List.set_cons_zero, List.set_cons_succ, i64_w, i32_w]
                            rfl
                          refine P1 ?_ 79 105 mk_80 rfl rfl HT_.out (by kernel_rfl) (fun _ _ _ => id) (.inl ⟨by rfl, ?_⟩) ?_ ?_ ?_; rotate_left; (intro w'; go_simp; with_reducible rfl); rotate_left; (simp only [pa, List.set_cons_zero, List.set_cons_succ, i64_w, i32_w]; rfl)
                          refine P1 ?_ 80 106 mk_81 rfl rfl HT_.out (by kernel_rfl) (fun _ _ _ => id) (.inl ⟨by rfl, ?_⟩) ?_ ?_ ?_; rotate_left; (intro w'; go_simp; with_reducible rfl); rotate_left; (simp only [pa, List.set_cons_zero, List.set_cons_succ, i64_w, i32_w]; rfl)
                          refine done_ (done_of HT_.out (by kernel_rfl)) ?_
                          try go_wp2
                          go_meet
                          case rel => exact ⟨_, (((wrap64 (((rd_T27 t163 x8_1).f2) - ((rd_T27 t163 x8_1).f1))) != t181)), (by first | rfl | (simp; done) | (simp [*]; done) | (simp [wrap64]; done)), H', ⟨by have := HK1.out; first | omega | exact Nat.le_refl _⟩, ⟨by (with_reducible repeat (first | apply Kd.R_alloc | apply Kd.R_drewN | apply Kd.R_drew)); exact HO_6.out⟩, ⟨by repeat (first | (with_reducible first | exact HB.out | apply below_alloc | apply pw_below_drewN | apply below_drew1) | exact HB.out)⟩⟩
                · rw [if_neg c15] at H
                  have c15b0 : (((rd_T27 t163 x8_1).f0) == x7_1) = false := beq_eq_false_iff_ne.mpr c15
                  have c15b1 : (((rd_T27 t163 x8_1).f0) != x7_1) = true := bne_iff_ne.mpr c15
                  have H' := Aside0.mk H
                  clear H
                  try go_wp2
                  have n0_ := Aside0.mk (Kd.R_drew HO_6.out)
                  have n1_ := Aside0.mk (below_drew1 HB.out)
                  clear HO_6
                  clear HB
                  have HO_6 := n0_
                  have HB := n1_
                  clear n0_ n1_
                  have p167 : 0 ≤ (x8_1 : Int) := of_decide_eq_true (by first | (with_reducible assumption) | assumption)
                  have q167 : x8_1 < (t163.length : Int) := of_decide_eq_true (by first | (with_reducible assumption) | assumption)
                  obtain ⟨ad167, e167, hx167_0, hx167_1, hx167_2⟩ := at_T27 (Kd.R_reads' HO_6.out).2.2 x8_1 p167 q167
                  cases e167
                  replace p167 := eq_true p167
                  replace q167 := eq_true q167
                  refine start_ (n := 81) (S := fun w' => w'.cell? (ad167.add ((x8_1).toNat * 3)) = some (.int .i64 ((rd_T27 t163 x8_1).f0)) ∧ w'.cell? ⟨(ad167.add ((x8_1).toNat * 3)).block, (ad167.add ((x8_1).toNat * 3)).off + 1, none⟩ = some (.int .i64 ((rd_T27 t163 x8_1).f1)) ∧ w'.cell? ⟨(ad167.add ((x8_1).toNat * 3)).block, (ad167.add ((x8_1).toNat * 3)).off + 2, none⟩ = some (.int .i64 ((rd_T27 t163 x8_1).f2))) (ds := []) mk_0 (by kernel_rfl) rfl rfl ⟨hx167_0, hx167_1, hx167_2⟩ (fun hHeld => ?_); refine with_tabW targumlaw2_BrkWhole.tab11 targumlaw2_BrkWhole.bits11 (fun HT_ HW_ => ?_)
                  generalize wr.drew = w29 at HO_6 HB hx167_0 hx167_1 hx167_2 hHeld ⊢
                  refine P1 ?_ 0 26 mk_1 rfl rfl HT_.out (by kernel_rfl) (fun _ _ _ => id) (.inl ⟨by rfl, ?_⟩) ?_ ?_ ?_; rotate_left; (intro w'; go_simp; with_reducible rfl); rotate_left; (simp only [pa, List.set_cons_zero, List.set_cons_succ, i64_w, i32_w]; rfl)
                  refine P1 ?_ 1 27 mk_2 rfl rfl HT_.out (by kernel_rfl) (fun _ _ _ => id) (.inl ⟨by rfl, ?_⟩) ?_ ?_ ?_; rotate_left; (intro w'; go_simp; with_reducible rfl); rotate_left; (simp only [pa, List.set_cons_zero, List.set_cons_succ, i64_w, i32_w]; rfl)
                  refine P1 ?_ 2 28 mk_3 rfl rfl HT_.out (by kernel_rfl) (fun _ _ _ => id) (.inl ⟨by rfl, ?_⟩) ?_ ?_ ?_; rotate_left; (intro w'; go_simp; with_reducible rfl); rotate_left; (simp only [pa, List.set_cons_zero, List.set_cons_succ, i64_w, i32_w]; rfl)
                  refine P1 ?_ 3 29 mk_4 rfl rfl HT_.out (by kernel_rfl) (fun _ _ _ => id) (.inl ⟨by rfl, ?_⟩) ?_ ?_ ?_; rotate_left; (intro w'; go_simp; with_reducible rfl); rotate_left; (simp only [pa, List.set_cons_zero, List.set_cons_succ, i64_w, i32_w]; rfl)
                  refine P1 ?_ 5 31 mk_5 rfl rfl HT_.out (by kernel_rfl) (fun _ _ _ => id) (.inl ⟨by rfl, ?_⟩) ?_ ?_ ?_; rotate_left; (intro w'; go_simp; with_reducible rfl); rotate_left; (simp only [pa, List.set_cons_zero, List.set_cons_succ, i64_w, i32_w]; rfl)
                  refine T1 ?_ 4 30 mk_6 rfl rfl HT_.out HW_.out (by kernel_rfl) (fun _ _ _ => id) (.inl ⟨by rfl, ?_⟩) hHeld ?_ ?_ ?_; rotate_left; (rintro w' ⟨s0, s1, s2⟩; go_simp; with_reducible rfl); rotate_left; (simp only [pa, List.set_cons_zero, List.set_cons_succ, i64_w, i32_w]; rfl)
                  refine P1 ?_ 6 32 mk_7 rfl rfl HT_.out (by kernel_rfl) (fun _ _ _ => id) (.inl ⟨by rfl, ?_⟩) ?_ ?_ ?_; rotate_left; (intro w'; go_simp; with_reducible rfl); rotate_left; (simp only [pa, List.set_cons_zero, List.set_cons_succ, i64_w, i32_w]; rfl)
                  refine P1 ?_ 7 33 mk_8 rfl rfl HT_.out (by kernel_rfl) (fun _ _ _ => id) (.inl ⟨by rfl, ?_⟩) ?_ ?_ ?_; rotate_left; (intro w'; go_simp; with_reducible rfl); rotate_left; (simp only [pa, List.set_cons_zero, List.set_cons_succ, i64_w, i32_w]; rfl)
                  refine P1 undef 8 34 mk_9 rfl rfl HT_.out (by kernel_rfl) (fun _ _ _ => id) (.inr ⟨by rfl, rfl⟩) ?_ ?_ ?_; rotate_left; (simp only [pa, List.set_cons_zero, List.set_cons_succ, i64_w, i32_w]; rfl)
                  refine P1 undef 9 35 mk_10 rfl rfl HT_.out (by kernel_rfl) (fun _ _ _ => id) (.inr ⟨by rfl, rfl⟩) ?_ ?_ ?_; rotate_left; (simp only [pa, List.set_cons_zero, List.set_cons_succ, i64_w, i32_w]; rfl)
                  refine P1 undef 10 36 mk_11 rfl rfl HT_.out (by kernel_rfl) (fun _ _ _ => id) (.inr ⟨by rfl, rfl⟩) ?_ ?_ ?_; rotate_left; (simp only [pa, List.set_cons_zero, List.set_cons_succ, i64_w, i32_w]; rfl)
                  refine P1 undef 11 37 mk_12 rfl rfl HT_.out (by kernel_rfl) (fun _ _ _ => id) (.inr ⟨by rfl, rfl⟩) ?_ ?_ ?_; rotate_left; (simp only [pa, List.set_cons_zero, List.set_cons_succ, i64_w, i32_w]; rfl)
                  refine P1 undef 12 38 mk_104 rfl rfl HT_.out (by kernel_rfl) (fun _ _ _ => id) (.inr ⟨by rfl, rfl⟩) ?_ ?_ ?_; rotate_left; (simp only [pa, List.set_cons_zero, List.set_cons_succ, i64_w, i32_w]; rfl)
                  refine P1 undef 13 39 mk_14 rfl rfl HT_.out (by kernel_rfl) (fun _ _ _ => id) (.inr ⟨by rfl, rfl⟩) ?_ ?_ ?_; rotate_left; (simp only [pa, List.set_cons_zero, List.set_cons_succ, i64_w, i32_w]; rfl)
                  refine P1 undef 14 40 mk_15 rfl rfl HT_.out (by kernel_rfl) (fun _ _ _ => id) (.inr ⟨by rfl, rfl⟩) ?_ ?_ ?_; rotate_left; (simp only [pa, List.set_cons_zero, List.set_cons_succ, i64_w, i32_w]; rfl)
                  refine P1 ?_ 15 41 mk_16 rfl rfl HT_.out (by kernel_rfl) (fun _ _ _ => id) (.inl ⟨by rfl, ?_⟩) ?_ ?_ ?_; rotate_left; (intro w'; go_simp; with_reducible rfl); rotate_left; (simp only [pa, List.set_cons_zero, List.set_cons_succ, i64_w, i32_w]; rfl)
                  refine P1 ?_ 16 42 mk_17 rfl rfl HT_.out (by kernel_rfl) (fun _ _ _ => id) (.inl ⟨by rfl, ?_⟩) ?_ ?_ ?_; rotate_left; (intro w'; go_simp; with_reducible rfl); rotate_left; (simp only [pa, List.set_cons_zero, List.set_cons_succ, i64_w, i32_w]; rfl)
                  refine P1 undef 17 43 mk_18 rfl rfl HT_.out (by kernel_rfl) (fun _ _ _ => id) (.inr ⟨by rfl, rfl⟩) ?_ ?_ ?_; rotate_left; (simp only [pa, List.set_cons_zero, List.set_cons_succ, i64_w, i32_w]; rfl)
                  refine P1 undef 18 44 mk_19 rfl rfl HT_.out (by kernel_rfl) (fun _ _ _ => id) (.inr ⟨by rfl, rfl⟩) ?_ ?_ ?_; rotate_left; (simp only [pa, List.set_cons_zero, List.set_cons_succ, i64_w, i32_w]; rfl)
                  refine P1 undef 19 45 mk_20 rfl rfl HT_.out (by kernel_rfl) (fun _ _ _ => id) (.inr ⟨by rfl, rfl⟩) ?_ ?_ ?_; rotate_left; (simp only [pa, List.set_cons_zero, List.set_cons_succ, i64_w, i32_w]; rfl)
                  refine P1 undef 20 46 mk_21 rfl rfl HT_.out (by kernel_rfl) (fun _ _ _ => id) (.inr ⟨by rfl, rfl⟩) ?_ ?_ ?_; rotate_left; (simp only [pa, List.set_cons_zero, List.set_cons_succ, i64_w, i32_w]; rfl)
                  refine P1 undef 21 47 mk_22 rfl rfl HT_.out (by kernel_rfl) (fun _ _ _ => id) (.inr ⟨by rfl, rfl⟩) ?_ ?_ ?_; rotate_left; (simp only [pa, List.set_cons_zero, List.set_cons_succ, i64_w, i32_w]; rfl)
                  refine P1 undef 22 48 mk_23 rfl rfl HT_.out (by kernel_rfl) (fun _ _ _ => id) (.inr ⟨by rfl, rfl⟩) ?_ ?_ ?_; rotate_left; (simp only [pa, List.set_cons_zero, List.set_cons_succ, i64_w, i32_w]; rfl)
                  refine P1 undef 23 49 mk_24 rfl rfl HT_.out (by kernel_rfl) (fun _ _ _ => id) (.inr ⟨by rfl, rfl⟩) ?_ ?_ ?_; rotate_left; (simp only [pa, List.set_cons_zero, List.set_cons_succ, i64_w, i32_w]; rfl)
                  refine P1 undef 24 50 mk_25 rfl rfl HT_.out (by kernel_rfl) (fun _ _ _ => id) (.inr ⟨by rfl, rfl⟩) ?_ ?_ ?_; rotate_left; (simp only [pa, List.set_cons_zero, List.set_cons_succ, i64_w, i32_w]; rfl)
                  refine P1 undef 25 51 mk_26 rfl rfl HT_.out (by kernel_rfl) (fun _ _ _ => id) (.inr ⟨by rfl, rfl⟩) ?_ ?_ ?_; rotate_left; (simp only [pa, List.set_cons_zero, List.set_cons_succ, i64_w, i32_w]; rfl)
                  refine P1 undef 26 52 mk_27 rfl rfl HT_.out (by kernel_rfl) (fun _ _ _ => id) (.inr ⟨by rfl, rfl⟩) ?_ ?_ ?_; rotate_left; (simp only [pa, List.set_cons_zero, List.set_cons_succ, i64_w, i32_w]; rfl)
                  refine P1 undef 27 53 mk_28 rfl rfl HT_.out (by kernel_rfl) (fun _ _ _ => id) (.inr ⟨by rfl, rfl⟩) ?_ ?_ ?_; rotate_left; (simp only [pa, List.set_cons_zero, List.set_cons_succ, i64_w, i32_w]; rfl)
                  refine P1 ?_ 28 54 mk_29 rfl rfl HT_.out (by kernel_rfl) (fun _ _ _ => id) (.inl ⟨by rfl, ?_⟩) ?_ ?_ ?_; rotate_left; (intro w'; go_simp; with_reducible rfl); rotate_left; (simp only [pa, List.set_cons_zero, List.set_cons_succ, i64_w, i32_w]; rfl)
                  refine P1 ?_ 29 55 mk_30 rfl rfl HT_.out (by kernel_rfl) (fun _ _ _ => id) (.inl ⟨by rfl, ?_⟩) ?_ ?_ ?_; rotate_left; (intro w'; go_simp; with_reducible rfl); rotate_left; (simp only [pa, List.set_cons_zero, List.set_cons_succ, i64_w, i32_w]; rfl)
                  refine P1 undef 30 56 mk_31 rfl rfl HT_.out (by kernel_rfl) (fun _ _ _ => id) (.inr ⟨by rfl, rfl⟩) ?_ ?_ ?_; rotate_left; (simp only [pa, List.set_cons_zero, List.set_cons_succ, i64_w, i32_w]; rfl)
                  refine P1 undef 31 57 mk_32 rfl rfl HT_.out (by kernel_rfl) (fun _ _ _ => id) (.inr ⟨by rfl, rfl⟩) ?_ ?_ ?_; rotate_left; (simp only [pa, List.set_cons_zero, List.set_cons_succ, i64_w, i32_w]; rfl)
                  refine P1 undef 32 58 mk_33 rfl rfl HT_.out (by kernel_rfl) (fun _ _ _ => id) (.inr ⟨by rfl, rfl⟩) ?_ ?_ ?_; rotate_left; (simp only [pa, List.set_cons_zero, List.set_cons_succ, i64_w, i32_w]; rfl)
                  refine P1 undef 33 59 mk_34 rfl rfl HT_.out (by kernel_rfl) (fun _ _ _ => id) (.inr ⟨by rfl, rfl⟩) ?_ ?_ ?_; rotate_left; (simp only [pa, List.set_cons_zero, List.set_cons_succ, i64_w, i32_w]; rfl)
                  refine P1 undef 34 60 mk_35 rfl rfl HT_.out (by kernel_rfl) (fun _ _ _ => id) (.inr ⟨by rfl, rfl⟩) ?_ ?_ ?_; rotate_left; (simp only [pa, List.set_cons_zero, List.set_cons_succ, i64_w, i32_w]; rfl)
                  refine P1 undef 35 61 mk_36 rfl rfl HT_.out (by kernel_rfl) (fun _ _ _ => id) (.inr ⟨by rfl, rfl⟩) ?_ ?_ ?_; rotate_left; (simp only [pa, List.set_cons_zero, List.set_cons_succ, i64_w, i32_w]; rfl)
                  refine P1 undef 36 62 mk_37 rfl rfl HT_.out (by kernel_rfl) (fun _ _ _ => id) (.inr ⟨by rfl, rfl⟩) ?_ ?_ ?_; rotate_left; (simp only [pa, List.set_cons_zero, List.set_cons_succ, i64_w, i32_w]; rfl)
                  refine P1 undef 37 63 mk_38 rfl rfl HT_.out (by kernel_rfl) (fun _ _ _ => id) (.inr ⟨by rfl, rfl⟩) ?_ ?_ ?_; rotate_left; (simp only [pa, List.set_cons_zero, List.set_cons_succ, i64_w, i32_w]; rfl)
                  refine P1 ?_ 38 64 mk_39 rfl rfl HT_.out (by kernel_rfl) (fun _ _ _ => id) (.inl ⟨by rfl, ?_⟩) ?_ ?_ ?_; rotate_left; (intro w'; go_simp; with_reducible rfl); rotate_left; (simp only [pa, List.set_cons_zero, List.set_cons_succ, i64_w, i32_w]; rfl)
                  refine P1 ?_ 39 65 mk_40 rfl rfl HT_.out (by kernel_rfl) (fun _ _ _ => id) (.inl ⟨by rfl, ?_⟩) ?_ ?_ ?_; rotate_left; (intro w'; go_simp; with_reducible rfl); rotate_left; (simp only [pa, List.set_cons_zero, List.set_cons_succ, i64_w, i32_w]; rfl)
                  refine P1 undef 40 66 mk_41 rfl rfl HT_.out (by kernel_rfl) (fun _ _ _ => id) (.inr ⟨by rfl, rfl⟩) ?_ ?_ ?_; rotate_left; (simp only [pa, List.set_cons_zero, List.set_cons_succ, i64_w, i32_w]; rfl)
                  refine P1 undef 41 67 mk_42 rfl rfl HT_.out (by kernel_rfl) (fun _ _ _ => id) (.inr ⟨by rfl, rfl⟩) ?_ ?_ ?_; rotate_left; (simp only [pa, List.set_cons_zero, List.set_cons_succ, i64_w, i32_w]; rfl)
                  refine P1 undef 42 68 mk_43 rfl rfl HT_.out (by kernel_rfl) (fun _ _ _ => id) (.inr ⟨by rfl, rfl⟩) ?_ ?_ ?_; rotate_left; (simp only [pa, List.set_cons_zero, List.set_cons_succ, i64_w, i32_w]; rfl)
                  refine P1 undef 43 69 mk_44 rfl rfl HT_.out (by kernel_rfl) (fun _ _ _ => id) (.inr ⟨by rfl, rfl⟩) ?_ ?_ ?_; rotate_left; (simp only [pa, List.set_cons_zero, List.set_cons_succ, i64_w, i32_w]; rfl)
                  refine P1 undef 44 70 mk_45 rfl rfl HT_.out (by kernel_rfl) (fun _ _ _ => id) (.inr ⟨by rfl, rfl⟩) ?_ ?_ ?_; rotate_left; (simp only [pa, List.set_cons_zero, List.set_cons_succ, i64_w, i32_w]; rfl)
                  refine P1 undef 45 71 mk_46 rfl rfl HT_.out (by kernel_rfl) (fun _ _ _ => id) (.inr ⟨by rfl, rfl⟩) ?_ ?_ ?_; rotate_left; (simp only [pa, List.set_cons_zero, List.set_cons_succ, i64_w, i32_w]; rfl)
                  refine P1 undef 46 72 mk_47 rfl rfl HT_.out (by kernel_rfl) (fun _ _ _ => id) (.inr ⟨by rfl, rfl⟩) ?_ ?_ ?_; rotate_left; (simp only [pa, List.set_cons_zero, List.set_cons_succ, i64_w, i32_w]; rfl)
                  refine P1 undef 47 73 mk_48 rfl rfl HT_.out (by kernel_rfl) (fun _ _ _ => id) (.inr ⟨by rfl, rfl⟩) ?_ ?_ ?_; rotate_left; (simp only [pa, List.set_cons_zero, List.set_cons_succ, i64_w, i32_w]; rfl)
                  refine P1 undef 48 74 mk_49 rfl rfl HT_.out (by kernel_rfl) (fun _ _ _ => id) (.inr ⟨by rfl, rfl⟩) ?_ ?_ ?_; rotate_left; (simp only [pa, List.set_cons_zero, List.set_cons_succ, i64_w, i32_w]; rfl)
                  refine P1 undef 49 75 mk_50 rfl rfl HT_.out (by kernel_rfl) (fun _ _ _ => id) (.inr ⟨by rfl, rfl⟩) ?_ ?_ ?_; rotate_left; (simp only [pa, List.set_cons_zero, List.set_cons_succ, i64_w, i32_w]; rfl)
                  refine P1 undef 50 76 mk_51 rfl rfl HT_.out (by kernel_rfl) (fun _ _ _ => id) (.inr ⟨by rfl, rfl⟩) ?_ ?_ ?_; rotate_left; (simp only [pa, List.set_cons_zero, List.set_cons_succ, i64_w, i32_w]; rfl)
                  refine P1 undef 51 77 mk_52 rfl rfl HT_.out (by kernel_rfl) (fun _ _ _ => id) (.inr ⟨by rfl, rfl⟩) ?_ ?_ ?_; rotate_left; (simp only [pa, List.set_cons_zero, List.set_cons_succ, i64_w, i32_w]; rfl)
                  refine P1 undef 52 78 mk_53 rfl rfl HT_.out (by kernel_rfl) (fun _ _ _ => id) (.inr ⟨by rfl, rfl⟩) ?_ ?_ ?_; rotate_left; (simp only [pa, List.set_cons_zero, List.set_cons_succ, i64_w, i32_w]; rfl)
                  refine P1 undef 53 79 mk_54 rfl rfl HT_.out (by kernel_rfl) (fun _ _ _ => id) (.inr ⟨by rfl, rfl⟩) ?_ ?_ ?_; rotate_left; (simp only [pa, List.set_cons_zero, List.set_cons_succ, i64_w, i32_w]; rfl)
                  refine P1 undef 54 80 mk_55 rfl rfl HT_.out (by kernel_rfl) (fun _ _ _ => id) (.inr ⟨by rfl, rfl⟩) ?_ ?_ ?_; rotate_left; (simp only [pa, List.set_cons_zero, List.set_cons_succ, i64_w, i32_w]; rfl)
                  refine P1 undef 55 81 mk_56 rfl rfl HT_.out (by kernel_rfl) (fun _ _ _ => id) (.inr ⟨by rfl, rfl⟩) ?_ ?_ ?_; rotate_left; (simp only [pa, List.set_cons_zero, List.set_cons_succ, i64_w, i32_w]; rfl)
                  refine P1 undef 56 82 mk_57 rfl rfl HT_.out (by kernel_rfl) (fun _ _ _ => id) (.inr ⟨by rfl, rfl⟩) ?_ ?_ ?_; rotate_left; (simp only [pa, List.set_cons_zero, List.set_cons_succ, i64_w, i32_w]; rfl)
                  refine P1 undef 57 83 mk_58 rfl rfl HT_.out (by kernel_rfl) (fun _ _ _ => id) (.inr ⟨by rfl, rfl⟩) ?_ ?_ ?_; rotate_left; (simp only [pa, List.set_cons_zero, List.set_cons_succ, i64_w, i32_w]; rfl)
                  refine P1 ?_ 58 84 mk_59 rfl rfl HT_.out (by kernel_rfl) (fun _ _ _ => id) (.inl ⟨by rfl, ?_⟩) ?_ ?_ ?_; rotate_left; (intro w'; go_simp; with_reducible rfl); rotate_left; (simp only [pa, List.set_cons_zero, List.set_cons_succ, i64_w, i32_w]; rfl)
                  refine P1 ?_ 59 85 mk_60 rfl rfl HT_.out (by kernel_rfl) (fun _ _ _ => id) (.inl ⟨by rfl, ?_⟩) ?_ ?_ ?_; rotate_left; (intro w'; go_simp; with_reducible rfl); rotate_left; (simp only [pa, List.set_cons_zero, List.set_cons_succ, i64_w, i32_w]; rfl)
                  refine P1 undef 60 86 mk_61 rfl rfl HT_.out (by kernel_rfl) (fun _ _ _ => id) (.inr ⟨by rfl, rfl⟩) ?_ ?_ ?_; rotate_left; (simp only [pa, List.set_cons_zero, List.set_cons_succ, i64_w, i32_w]; rfl)
                  refine P1 undef 61 87 mk_62 rfl rfl HT_.out (by kernel_rfl) (fun _ _ _ => id) (.inr ⟨by rfl, rfl⟩) ?_ ?_ ?_; rotate_left; (simp only [pa, List.set_cons_zero, List.set_cons_succ, i64_w, i32_w]; rfl)
                  refine P1 undef 62 88 mk_63 rfl rfl HT_.out (by kernel_rfl) (fun _ _ _ => id) (.inr ⟨by rfl, rfl⟩) ?_ ?_ ?_; rotate_left; (simp only [pa, List.set_cons_zero, List.set_cons_succ, i64_w, i32_w]; rfl)
                  refine P1 undef 63 89 mk_64 rfl rfl HT_.out (by kernel_rfl) (fun _ _ _ => id) (.inr ⟨by rfl, rfl⟩) ?_ ?_ ?_; rotate_left; (simp only [pa, List.set_cons_zero, List.set_cons_succ, i64_w, i32_w]; rfl)
                  refine P1 undef 64 90 mk_65 rfl rfl HT_.out (by kernel_rfl) (fun _ _ _ => id) (.inr ⟨by rfl, rfl⟩) ?_ ?_ ?_; rotate_left; (simp only [pa, List.set_cons_zero, List.set_cons_succ, i64_w, i32_w]; rfl)
                  refine P1 undef 65 91 mk_66 rfl rfl HT_.out (by kernel_rfl) (fun _ _ _ => id) (.inr ⟨by rfl, rfl⟩) ?_ ?_ ?_; rotate_left; (simp only [pa, List.set_cons_zero, List.set_cons_succ, i64_w, i32_w]; rfl)
                  refine P1 undef 66 92 mk_67 rfl rfl HT_.out (by kernel_rfl) (fun _ _ _ => id) (.inr ⟨by rfl, rfl⟩) ?_ ?_ ?_; rotate_left; (simp only [pa, List.set_cons_zero, List.set_cons_succ, i64_w, i32_w]; rfl)
                  refine P1 undef 67 93 mk_68 rfl rfl HT_.out (by kernel_rfl) (fun _ _ _ => id) (.inr ⟨by rfl, rfl⟩) ?_ ?_ ?_; rotate_left; (simp only [pa, List.set_cons_zero, List.set_cons_succ, i64_w, i32_w]; rfl)
                  refine P1 undef 68 94 mk_69 rfl rfl HT_.out (by kernel_rfl) (fun _ _ _ => id) (.inr ⟨by rfl, rfl⟩) ?_ ?_ ?_; rotate_left; (simp only [pa, List.set_cons_zero, List.set_cons_succ, i64_w, i32_w]; rfl)
                  refine P1 undef 69 95 mk_70 rfl rfl HT_.out (by kernel_rfl) (fun _ _ _ => id) (.inr ⟨by rfl, rfl⟩) ?_ ?_ ?_; rotate_left; (simp only [pa, List.set_cons_zero, List.set_cons_succ, i64_w, i32_w]; rfl)
                  refine P1 undef 70 96 mk_71 rfl rfl HT_.out (by kernel_rfl) (fun _ _ _ => id) (.inr ⟨by rfl, rfl⟩) ?_ ?_ ?_; rotate_left; (simp only [pa, List.set_cons_zero, List.set_cons_succ, i64_w, i32_w]; rfl)
                  refine P1 undef 71 97 mk_72 rfl rfl HT_.out (by kernel_rfl) (fun _ _ _ => id) (.inr ⟨by rfl, rfl⟩) ?_ ?_ ?_; rotate_left; (simp only [pa, List.set_cons_zero, List.set_cons_succ, i64_w, i32_w]; rfl)
                  refine P1 undef 72 98 mk_73 rfl rfl HT_.out (by kernel_rfl) (fun _ _ _ => id) (.inr ⟨by rfl, rfl⟩) ?_ ?_ ?_; rotate_left; (simp only [pa, List.set_cons_zero, List.set_cons_succ, i64_w, i32_w]; rfl)
                  refine P1 undef 73 99 mk_74 rfl rfl HT_.out (by kernel_rfl) (fun _ _ _ => id) (.inr ⟨by rfl, rfl⟩) ?_ ?_ ?_; rotate_left; (simp only [pa, List.set_cons_zero, List.set_cons_succ, i64_w, i32_w]; rfl)
                  refine P1 undef 74 100 mk_75 rfl rfl HT_.out (by kernel_rfl) (fun _ _ _ => id) (.inr ⟨by rfl, rfl⟩) ?_ ?_ ?_; rotate_left; (simp only [pa, List.set_cons_zero, List.set_cons_succ, i64_w, i32_w]; rfl)
                  refine P1 undef 75 101 mk_76 rfl rfl HT_.out (by kernel_rfl) (fun _ _ _ => id) (.inr ⟨by rfl, rfl⟩) ?_ ?_ ?_; rotate_left; (simp only [pa, List.set_cons_zero, List.set_cons_succ, i64_w, i32_w]; rfl)
                  refine P1 undef 76 102 mk_77 rfl rfl HT_.out (by kernel_rfl) (fun _ _ _ => id) (.inr ⟨by rfl, rfl⟩) ?_ ?_ ?_; rotate_left; (simp only [pa, List.set_cons_zero, List.set_cons_succ, i64_w, i32_w]; rfl)
                  refine P1 undef 77 103 mk_78 rfl rfl HT_.out (by kernel_rfl) (fun _ _ _ => id) (.inr ⟨by rfl, rfl⟩) ?_ ?_ ?_; rotate_left; (simp only [pa, List.set_cons_zero, List.set_cons_succ, i64_w, i32_w]; rfl)
                  refine P1 undef 78 104 mk_79 rfl rfl HT_.out (by kernel_rfl) (fun _ _ _ => id) (.inr ⟨by rfl, rfl⟩) ?_ ?_ ?_; rotate_left; (simp only [pa, List.set_cons_zero, List.set_cons_succ, i64_w, i32_w]; rfl)
                  refine P1 undef 79 105 mk_80 rfl rfl HT_.out (by kernel_rfl) (fun _ _ _ => id) (.inr ⟨by rfl, rfl⟩) ?_ ?_ ?_; rotate_left; (simp only [pa, List.set_cons_zero, List.set_cons_succ, i64_w, i32_w]; rfl)
                  refine P1 ?_ 80 106 mk_81 rfl rfl HT_.out (by kernel_rfl) (fun _ _ _ => id) (.inl ⟨by rfl, ?_⟩) ?_ ?_ ?_; rotate_left; (intro w'; go_simp; with_reducible rfl); rotate_left; (simp only [pa, List.set_cons_zero, List.set_cons_succ, i64_w, i32_w]; rfl)
                  refine done_ (done_of HT_.out (by kernel_rfl)) ?_
                  try go_wp2
                  go_meet
                  case rel => exact ⟨_, (true), (by first | rfl | (simp; done) | (simp [*]; done) | (simp [wrap64]; done)), H', ⟨by have := HK1.out; first | omega | exact Nat.le_refl _⟩, ⟨by (with_reducible repeat (first | apply Kd.R_alloc | apply Kd.R_drewN | apply Kd.R_drew)); exact HO_6.out⟩, ⟨by repeat (first | (with_reducible first | exact HB.out | apply below_alloc | apply pw_below_drewN | apply below_drew1) | exact HB.out)⟩⟩
              · rw [if_neg c14] at H
                exact absurd H (by simp)
            case rest =>
              clear HC12
              try clear c1
              try clear p1
              try clear q1
              try clear hx1
              try clear p2
              try clear p6
              try clear c12
              try clear c14
              try clear c15
              try clear c15b0
              try clear c15b1
              try clear p16
              try clear q16
              try clear hx16
              try clear hx167_0
              try clear hx167_1
              try clear hx167_2
              try clear p167
              try clear q167
              obtain ⟨kq, x106_11, rfl, HA, HJ11, HO_6, HB⟩ := hcut
              cases kq with
              | zero => exact absurd HA.out (by simp [targumlaw2_BrkWhole.j1])
              | succ kj11 =>
                have H := HA.out
                clear HA
                simp only [targumlaw2_BrkWhole.j1] at H
                by_cases c30 : x106_11 = true
                · subst c30
                  have H1 : (some false) = some r := by rw [if_pos rfl] at H; exact H
                  clear H
                  have H := H1
                  clear H1
                  obtain rfl := Option.some.inj H
                  go_wp2
                  go_ret
                  exact ⟨by first | rfl | (simp [errW_none, errW_some] <;> rfl) | (simp [*, errW_none, errW_some] <;> rfl), by repeat (first | (with_reducible first | exact HB.out | apply below_alloc | apply pw_below_drewN | apply below_drew1) | exact HB.out)⟩
                · replace c30 := Bool.eq_false_iff.mpr c30
                  subst c30
                  have H1 : (if 0 ≤ x8_1 then (if x8_1 < (t163.length : Int) then (targumlaw2_BrkWhole.l1 kj11 a0 t162 t163 x8_1 ((rd_T27 t163 x8_1).f0)) else (none)) else (none)) = some r := by rw [if_neg (show ¬ (false = true) by decide)] at H; exact H
                  clear H
                  have H := H1
                  clear H1
                  by_cases c31 : 0 ≤ x8_1
                  · rw [if_pos c31] at H
                    have c31b0 : decide (0 ≤ x8_1) = true := decide_eq_true c31
                    clear c31
                    by_cases c32 : x8_1 < (t163.length : Int)
                    · rw [if_pos c32] at H
                      have c32b0 : decide (x8_1 < (t163.length : Int)) = true := decide_eq_true c32
                      clear c32
                      have H' := Aside0.mk H
                      clear H
                      have p182 : 0 ≤ (x8_1 : Int) := of_decide_eq_true (by first | (with_reducible assumption) | assumption)
                      have q182 : x8_1 < (t163.length : Int) := of_decide_eq_true (by first | (with_reducible assumption) | assumption)
                      obtain ⟨ad182, e182, hx182_0, hx182_1, hx182_2⟩ := at_T27 (Kd.R_reads' HO_6.out).2.2 x8_1 p182 q182
                      cases e182
                      replace p182 := eq_true p182
                      replace q182 := eq_true q182
                      go_wp2
                      go_loopg [9] kj11 (fun kq v9 w' => ∃ (x9_3 : Int), v9 = .int .i64 x9_3 ∧ Aside0 (targumlaw2_BrkWhole.l1 kq a0 t162 t163 x8_1 x9_3 = some r) ∧ Aside0 (kq ≤ kj11) ∧ Aside0 (Kd.R k27 27 w' w.heap.size (fun _ => True) (.slice (some ad182) t163.length co13) t163) ∧ Aside0 (Below w.heap.size w w'))
                      case atStart => exact ⟨((rd_T27 t163 x8_1).f0), (by first | rfl | (simp; done) | (simp [*]; done) | (simp [wrap64]; done)), H', ⟨Nat.le_refl _⟩, ⟨by (with_reducible repeat (first | apply Kd.R_alloc | apply Kd.R_drewN | apply Kd.R_drew)); exact HO_6.out⟩, ⟨by repeat (first | (with_reducible first | exact HB.out | apply below_alloc | apply pw_below_drewN | apply below_drew1) | exact HB.out)⟩⟩
                      case round =>
                        clear H'
                        try clear c1
                        try clear p1
                        try clear q1
                        try clear hx1
                        try clear p2
                        try clear c3
                        try clear p6
                        try clear c12
                        try clear c14
                        try clear c15
                        try clear c15b0
                        try clear c15b1
                        try clear p16
                        try clear q16
                        try clear hx16
                        try clear p18
                        try clear q18
                        try clear hx18
                        try clear c30
                        try clear c31
                        try clear c31b0
                        try clear c32
                        try clear c32b0
                        try clear hx167_0
                        try clear hx167_1
                        try clear hx167_2
                        try clear hx182_0
                        try clear hx182_1
                        try clear hx182_2
                        try clear p1
                        try clear p16
                        try clear p167
                        try clear p182
                        try clear p2
                        try clear p6
                        try clear q1
                        try clear q16
                        try clear q167
                        try clear q182
                        obtain ⟨x9_3, rfl, HA, HK3, HO_6, HB⟩ := hrel
                        cases gk with
                        | zero => exact absurd HA.out (by simp [targumlaw2_BrkWhole.l1])
                        | succ k3 =>
                          have H := HA.out
                          clear HA
                          simp only [targumlaw2_BrkWhole.l1] at H
                          by_cases c33 : 0 ≤ x8_1
                          · rw [if_pos c33] at H
                            have c33b0 : decide (0 ≤ x8_1) = true := decide_eq_true c33
                            clear c33
                            by_cases c34 : x8_1 < (t163.length : Int)
                            · rw [if_pos c34] at H
                              have c34b0 : decide (x8_1 < (t163.length : Int)) = true := decide_eq_true c34
                              clear c34
                              by_cases c35 : x9_3 < ((rd_T27 t163 x8_1).f1)
                              · rw [if_pos c35] at H
                                have c35b0 : decide (x9_3 < ((rd_T27 t163 x8_1).f1)) = true := decide_eq_true c35
                                clear c35
                                replace H := Option.bind_eq_some_iff.mp H
                                obtain ⟨t184, A360, H⟩ := H
                                replace H : (if t184 = 0 then (targumlaw2_BrkWhole.l1 k3 a0 t162 t163 x8_1 (wrap64 (x9_3 + 1))) else (some false)) = some r := H
                                have A36 := Aside0.mk A360
                                clear A360
                                by_cases c37 : t184 = 0
                                · rw [if_pos c37] at H
                                  have c37b0 : (t184 == 0) = true := beq_iff_eq.mpr c37
                                  have c37b1 : (t184 != 0) = false := bne_eq_false_iff_eq.mpr c37
                                  clear c37
                                  have H' := Aside0.mk H
                                  clear H
                                  have p183 : 0 ≤ (x8_1 : Int) := of_decide_eq_true (by first | (with_reducible assumption) | assumption)
                                  have q183 : x8_1 < (t163.length : Int) := of_decide_eq_true (by first | (with_reducible assumption) | assumption)
                                  obtain ⟨ad183, e183, hx183_0, hx183_1, hx183_2⟩ := at_T27 (Kd.R_reads' HO_6.out).2.2 x8_1 p183 q183
                                  obtain rfl : ad182 = ad183 := (by injection e183)
                                  replace p183 := eq_true p183
                                  replace q183 := eq_true q183
                                  go_wp2_with (first | ((with_reducible refine gate_callee (f := 12) rfl ?_); refine goesL_ (some 124) rfl rfl Tryd.func12 (by kernel_rfl) rfl #[.int .i64 t162, .string a0, .int .i64 x9_3] rfl (by (try simp only [List.map_toArray, List.map_cons, List.map_nil]); first | done | rfl | (simp only [List.length_drop, List.length_take]; rfl)) ?_; (with_reducible refine (brk_Break.calls k3 t162 a0 x9_3 t184 _ A36.out).mono ?_); rintro e w' ⟨rfl, ⟨nd, rfl⟩⟩; refine ⟨_, rfl, ?_⟩))
                                  go_roundg k3
                                  case measure => have := HK1.out; have := HJ11.out; have := HK3.out; omega
                                  case rel => exact ⟨(wrap64 (x9_3 + 1)), (by first | rfl | (simp; done) | (simp [*]; done) | (simp [wrap64]; done)), H', ⟨by have := HK1.out; have := HJ11.out; have := HK3.out; omega⟩, ⟨by (with_reducible repeat (first | apply Kd.R_alloc | apply Kd.R_drewN | apply Kd.R_drew)); exact HO_6.out⟩, ⟨by repeat (first | (with_reducible first | exact HB.out | apply below_alloc | apply pw_below_drewN | apply below_drew1) | exact HB.out)⟩⟩
                                · rw [if_neg c37] at H
                                  have c37b0 : (t184 == 0) = false := beq_eq_false_iff_ne.mpr c37
                                  have c37b1 : (t184 != 0) = true := bne_iff_ne.mpr c37
                                  obtain rfl := Option.some.inj H
                                  have p183 : 0 ≤ (x8_1 : Int) := of_decide_eq_true (by first | (with_reducible assumption) | assumption)
                                  have q183 : x8_1 < (t163.length : Int) := of_decide_eq_true (by first | (with_reducible assumption) | assumption)
                                  obtain ⟨ad183, e183, hx183_0, hx183_1, hx183_2⟩ := at_T27 (Kd.R_reads' HO_6.out).2.2 x8_1 p183 q183
                                  obtain rfl : ad182 = ad183 := (by injection e183)
                                  replace p183 := eq_true p183
                                  replace q183 := eq_true q183
                                  go_wp2_with (first | ((with_reducible refine gate_callee (f := 12) rfl ?_); refine goesL_ (some 124) rfl rfl Tryd.func12 (by kernel_rfl) rfl #[.int .i64 t162, .string a0, .int .i64 x9_3] rfl (by (try simp only [List.map_toArray, List.map_cons, List.map_nil]); first | done | rfl | (simp only [List.length_drop, List.length_take]; rfl)) ?_; (with_reducible refine (brk_Break.calls k3 t162 a0 x9_3 t184 _ A36.out).mono ?_); rintro e w' ⟨rfl, ⟨nd, rfl⟩⟩; refine ⟨_, rfl, ?_⟩))
                                  go_ret
                                  exact ⟨by first | rfl | (simp [errW_none, errW_some] <;> rfl) | (simp [*, errW_none, errW_some] <;> rfl), by repeat (first | (with_reducible first | exact HB.out | apply below_alloc | apply pw_below_drewN | apply below_drew1) | exact HB.out)⟩
                              · rw [if_neg c35] at H
                                have c35b0 : decide (x9_3 < ((rd_T27 t163 x8_1).f1)) = false := decide_eq_false c35
                                clear c35
                                have H' := Aside0.mk H
                                clear H
                                have p183 : 0 ≤ (x8_1 : Int) := of_decide_eq_true (by first | (with_reducible assumption) | assumption)
                                have q183 : x8_1 < (t163.length : Int) := of_decide_eq_true (by first | (with_reducible assumption) | assumption)
                                obtain ⟨ad183, e183, hx183_0, hx183_1, hx183_2⟩ := at_T27 (Kd.R_reads' HO_6.out).2.2 x8_1 p183 q183
                                obtain rfl : ad182 = ad183 := (by injection e183)
                                replace p183 := eq_true p183
                                replace q183 := eq_true q183
                                have p185 : 0 ≤ (x8_1 : Int) := of_decide_eq_true (by first | (with_reducible assumption) | assumption)
                                have q185 : x8_1 < (t163.length : Int) := of_decide_eq_true (by first | (with_reducible assumption) | assumption)
                                obtain ⟨ad185, e185, hx185_0, hx185_1, hx185_2⟩ := at_T27 (Kd.R_reads' HO_6.out).2.2 x8_1 p185 q185
                                obtain rfl : ad182 = ad185 := (by injection e185)
                                replace p185 := eq_true p185
                                replace q185 := eq_true q185
                                go_wp2
                                go_roundg k3
                                case measure => have := HK1.out; have := HJ11.out; have := HK3.out; omega
                                case rel => exact ⟨((rd_T27 t163 x8_1).f2), (wrap64 (x8_1 + 1)), (by first | rfl | (simp; done) | (simp [*]; done) | (simp [wrap64]; done)), (by first | rfl | (simp; done) | (simp [*]; done) | (simp [wrap64]; done)), H', ⟨by have := HK1.out; have := HJ11.out; have := HK3.out; omega⟩, ⟨by (with_reducible repeat (first | apply Kd.R_alloc | apply Kd.R_drewN | apply Kd.R_drew)); exact HO_6.out⟩, ⟨by repeat (first | (with_reducible first | exact HB.out | apply below_alloc | apply pw_below_drewN | apply below_drew1) | exact HB.out)⟩⟩
                            · rw [if_neg c34] at H
                              exact absurd H (by simp)
                          · rw [if_neg c33] at H
                            exact absurd H (by simp)
                    · rw [if_neg c32] at H
                      exact absurd H (by simp)
                  · rw [if_neg c31] at H
                    exact absurd H (by simp)
          · rw [if_neg c11] at H
            have c11b0 : decide (x8_1 < (t163.length : Int)) = false := decide_eq_false c11
            clear c11
            by_cases c38 : x7_1 = (a0.size : Int)
            · rw [if_pos c38] at H
              have c38b0 : (x7_1 == (a0.size : Int)) = true := beq_iff_eq.mpr c38
              have c38b1 : (x7_1 != (a0.size : Int)) = false := bne_eq_false_iff_eq.mpr c38
              clear c38
              by_cases c39 : (t163.length : Int) = 0
              · rw [if_pos c39] at H
                have c39b0 : ((t163.length : Int) == 0) = true := beq_iff_eq.mpr c39
                have c39b1 : ((t163.length : Int) != 0) = false := bne_eq_false_iff_eq.mpr c39
                clear c39
                obtain rfl := Option.some.inj H
                obtain ⟨Ao40, co40, eo40⟩ := Kd.R_slice HO_6.out
                subst eo40
                go_wp2
                go_ret
                exact ⟨by first | rfl | (simp [errW_none, errW_some] <;> rfl) | (simp [*, errW_none, errW_some] <;> rfl), by repeat (first | (with_reducible first | exact HB.out | apply below_alloc | apply pw_below_drewN | apply below_drew1) | exact HB.out)⟩
              · rw [if_neg c39] at H
                have c39b0 : ((t163.length : Int) == 0) = false := beq_eq_false_iff_ne.mpr c39
                have c39b1 : ((t163.length : Int) != 0) = true := bne_iff_ne.mpr c39
                have c39b2 : ¬ (t163 = []) := fun h_ => c39 (by rw [h_]; rfl)
                obtain ⟨ji41, hji41⟩ : ∃ j_ : Int, (wrap64 ((t163.length : Int) - 1)) = j_ := ⟨_, rfl⟩
                replace H : (if 0 ≤ (ji41) then (if (ji41) < (t163.length : Int) then (some (decide (((rd_T27 t163 (ji41)).f0) < (a0.size : Int)))) else (none)) else (none)) = some r := by first | (rw [hji41] at H; exact H) | (simp only [hji41] at H ⊢; exact H)
                have hji41w : (IntKind.i64.wrap ((t163.length : Int) - 1)) = ji41 := (i64_w _).trans hji41
                by_cases c42 : 0 ≤ (ji41)
                · rw [if_pos c42] at H
                  have c42b0 : decide (0 ≤ (ji41)) = true := decide_eq_true c42
                  clear c42
                  by_cases c43 : (ji41) < (t163.length : Int)
                  · rw [if_pos c43] at H
                    have c43b0 : decide ((ji41) < (t163.length : Int)) = true := decide_eq_true c43
                    clear c43
                    obtain rfl := Option.some.inj H
                    obtain ⟨Ao44, co44, eo44⟩ := Kd.R_slice HO_6.out
                    subst eo44
                    have p166 : 0 ≤ ((ji41) : Int) := of_decide_eq_true (by first | (with_reducible assumption) | assumption)
                    have q166 : (ji41) < (t163.length : Int) := of_decide_eq_true (by first | (with_reducible assumption) | assumption)
                    obtain ⟨ad166, e166, hx166_0, hx166_1, hx166_2⟩ := at_T27 (Kd.R_reads' HO_6.out).2.2 (ji41) p166 q166
                    cases e166
                    replace p166 := eq_true p166
                    replace q166 := eq_true q166
                    go_wp2
                    go_ret
                    exact ⟨by first | rfl | (simp [errW_none, errW_some] <;> rfl) | (simp only [← hji41]; first | rfl | (simp [errW_none, errW_some] <;> rfl)) | (simp [*, errW_none, errW_some] <;> rfl), by repeat (first | (with_reducible first | exact HB.out | apply below_alloc | apply pw_below_drewN | apply below_drew1) | exact HB.out)⟩
                  · rw [if_neg c43] at H
                    exact absurd H (by simp)
                · rw [if_neg c42] at H
                  exact absurd H (by simp)
            · rw [if_neg c38] at H
              have c38b0 : (x7_1 == (a0.size : Int)) = false := beq_eq_false_iff_ne.mpr c38
              have c38b1 : (x7_1 != (a0.size : Int)) = true := bne_iff_ne.mpr c38
              obtain rfl := Option.some.inj H
              obtain ⟨Ao45, co45, eo45⟩ := Kd.R_slice HO_6.out
              subst eo45
              go_wp2
              go_ret
              exact ⟨by first | rfl | (simp [errW_none, errW_some] <;> rfl) | (simp [*, errW_none, errW_some] <;> rfl), by repeat (first | (with_reducible first | exact HB.out | apply below_alloc | apply pw_below_drewN | apply below_drew1) | exact HB.out)⟩
  · replace c4 := Bool.eq_false_iff.mpr c4
    subst c4
    have H1 : (some false) = some r := by rw [if_neg (show ¬ (false = true) by decide)] at H; exact H
    clear H
    have H := H1
    clear H1
    obtain rfl := Option.some.inj H
    go_enter Tryd.func3, Tryd.ntmps3
    go_wp2_with (first | ((with_reducible refine gate_callee (f := 9) rfl ?_); refine goesL_ (some 10) rfl rfl Tryd.func9 (by kernel_rfl) rfl #[] rfl (by (try simp only [List.map_toArray, List.map_cons, List.map_nil]); first | done | rfl | (simp only [List.length_drop, List.length_take]; rfl)) ?_; (with_reducible refine (targumlaw2_known.calls k  false _ ?side1 A3.out).mono ?_); (case side1 => exact Utf8Tabs_below HG.out (by repeat (first | (with_reducible first | exact HB.out | apply below_alloc | apply pw_below_drewN | apply below_drew1) | exact HB.out))); rintro e w46 ⟨rfl, hb⟩; refine ⟨_, rfl, ?_⟩; have n0_ := Aside0.mk (below_step (by repeat (first | (with_reducible first | exact HB.out | apply below_alloc | apply pw_below_drewN | apply below_drew1) | exact HB.out)) hb); clear HB; have HB := n0_; clear n0_; (try clear hb); (try clear hb2); (try clear hk); (try clear hi)))
    go_ret
    exact ⟨by first | rfl | (simp [errW_none, errW_some] <;> rfl) | (simp [*, errW_none, errW_some] <;> rfl), by repeat (first | (with_reducible first | exact HB.out | apply below_alloc | apply pw_below_drewN | apply below_drew1) | exact HB.out)⟩

/-- THE ONE PURE STATEMENT of targumlaw2_BrkWhole: yours. -/
def targumlaw2_BrkWhole.Pure : Prop := ∀ (a0 : ByteArray) (a1 : Bool), a0.size ≤ 140737488351232 → ∃ k, targumlaw2_BrkWhole.f k a0 a1 = some true
theorem targumlaw2_BrkWhole.walk (P : targumlaw2_BrkWhole.Pure) (a0 : ByteArray) (a1 : Bool) (w : World) (w0 : a0.size ≤ 140737488351232) (hG : Lib.Utf8Tabs 0 1 w) :
    Calls Tryd.prog 3 #[.string a0, .bool a1] w fun e w' => e = .returned (.bool true) ∧ Below w.heap.size w w' := by
  obtain ⟨k, h⟩ := P a0 a1 w0
  refine (targumlaw2_BrkWhole.calls k a0 a1 true w hG h).mono ?_
  rintro e w' ⟨rfl, hd⟩
  exact ⟨rfl, hd⟩

end Go.Proofs.YtkphlddgfmgogaaDoor.PW
