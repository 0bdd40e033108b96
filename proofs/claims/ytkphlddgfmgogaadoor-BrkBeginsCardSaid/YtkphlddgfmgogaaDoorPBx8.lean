/- Written by this session's own program (xprint, made over the kit's print): Lean functions with the same answers as the Go functions, and the proofs of that. Not trusted: Lean checks it. -/
import Derived.Test.YtkphlddgfmgogaaDoorPBx0
import Derived.Test.YtkphlddgfmgogaaDoorPBx3
import Derived.Test.YtkphlddgfmgogaaDoorPBx4
import Derived.Test.YtkphlddgfmgogaaDoorPBx7
namespace Go.Proofs.YtkphlddgfmgogaaDoor.PB
open Go.RowKit Go.Proofs.YtkphlddgfmgogaaDoorW.PrintWords Go.Proofs.YtkphlddgfmgogaaDoorW.PrintLast Go.Proofs.YtkphlddgfmgogaaDoorW.PrintMore
attribute [local go_sem] max2_int min2_int max_two min_two max_three min_three max_four min_four   -- for this text's walks alone
set_option linter.unusedVariables false
set_option linter.unusedSimpArgs false

/-! ### targumlaw2_BrkBegins: function 8 -/
mutual
def targumlaw2_BrkBegins.l0 : Nat → Int → ByteArray → Bool → Bool → Int → Option (Bool)
  | 0, _, _, _, _, _ => none
  | k + 1, x0, x1, x2, x3, x9 => if x9 < (x1.size : Int) then ((targumref1_Break.f k 11 x1 x9).bind fun t173 => (if t173 > 0 then (some true) else (targumlaw2_BrkBegins.l0 k x0 x1 x2 x3 (wrap64 (x9 + 1))))) else (targumlaw2_BrkBegins.l1 k x1 x2 x3 (wrap64 (Int.tmod x0 40)) (⟨#[]⟩ : ByteArray) 0)
def targumlaw2_BrkBegins.l1 : Nat → ByteArray → Bool → Bool → Int → ByteArray → Int → Option (Bool)
  | 0, _, _, _, _, _, _ => none
  | k + 1, x1, x2, x3, x10, x11, x12 => if x12 < x10 then (if x11.size + 1 ≤ 9223372036854775807 then (targumlaw2_BrkBegins.l1 k x1 x2 x3 x10 (x11 ++ (⟨#[32]⟩ : ByteArray)) (wrap64 (x12 + 1))) else (none)) else (if x2 = true then (targumlaw2_BrkBegins.j2 k x1 x3 x10 x11 (⟨#[46, 46, 46]⟩ : ByteArray) 2) else (targumlaw2_BrkBegins.j2 k x1 x3 x10 x11 (⟨#[45, 45, 45]⟩ : ByteArray) 1))
def targumlaw2_BrkBegins.j2 : Nat → ByteArray → Bool → Int → ByteArray → ByteArray → Int → Option (Bool)
  | 0, _, _, _, _, _, _ => none
  | k + 1, x1, x3, x10, x11, x13, x14 => if x3 = true then (targumlaw2_BrkBegins.j3 k x1 x10 x11 x13 x14 (⟨#[9]⟩ : ByteArray)) else (targumlaw2_BrkBegins.j3 k x1 x10 x11 x13 x14 (⟨#[32]⟩ : ByteArray))
def targumlaw2_BrkBegins.j3 : Nat → ByteArray → Int → ByteArray → ByteArray → Int → ByteArray → Option (Bool)
  | 0, _, _, _, _, _, _ => none
  | k + 1, x1, x10, x11, x13, x14, x15 => if x13.size + x15.size ≤ 9223372036854775807 then (if (x13 ++ x15).size + x1.size ≤ 9223372036854775807 then (if x11.size + 1 ≤ 9223372036854775807 then (if (x11 ++ (⟨#[120]⟩ : ByteArray)).size + x1.size ≤ 9223372036854775807 then ((targumlaw2_whole.f ((x13 ++ x15) ++ x1)).bind fun bt174 => ((brk_Marker.f k ((x13 ++ x15) ++ x1) bt174.1 bt174.2.1 bt174.2.2).bind fun t177 => (if t177 = x14 then ((targumlaw2_whole.f x13).bind fun bt178 => ((brk_Marker.f k x13 bt178.1 bt178.2.1 bt178.2.2).bind fun t181 => (if t181 = x14 then (if x13.size + 1 ≤ 9223372036854775807 then (if (x13 ++ (⟨#[120]⟩ : ByteArray)).size + x1.size ≤ 9223372036854775807 then ((targumlaw2_whole.f ((x13 ++ (⟨#[120]⟩ : ByteArray)) ++ x1)).bind fun bt182 => ((brk_Marker.f k ((x13 ++ (⟨#[120]⟩ : ByteArray)) ++ x1) bt182.1 bt182.2.1 bt182.2.2).bind fun t185 => (if t185 = 0 then (if 1 + ((x13 ++ x15) ++ x1).size ≤ 9223372036854775807 then ((targumlaw2_whole.f ((⟨#[32]⟩ : ByteArray) ++ ((x13 ++ x15) ++ x1))).bind fun bt186 => ((brk_Marker.f k ((⟨#[32]⟩ : ByteArray) ++ ((x13 ++ x15) ++ x1)) bt186.1 bt186.2.1 bt186.2.2).bind fun t189 => (if t189 = 0 then ((targumlaw2_whole.f ((x11 ++ (⟨#[120]⟩ : ByteArray)) ++ x1)).bind fun bt190 => ((brk_Indent.f ((x11 ++ (⟨#[120]⟩ : ByteArray)) ++ x1) bt190.1 bt190.2.1 bt190.2.2).bind fun t193 => (if t193 = x10 then ((targumlaw2_whole.f ((x11 ++ (⟨#[120]⟩ : ByteArray)) ++ x1)).bind fun bt194 => ((brk_Blank.f ((x11 ++ (⟨#[120]⟩ : ByteArray)) ++ x1) bt194.1 bt194.2.1 bt194.2.2).bind fun t197 => (if t197 = true then (some false) else ((targumlaw2_whole.f x11).bind fun bt198 => ((brk_Blank.f x11 bt198.1 bt198.2.1 bt198.2.2).bind fun t201 => (if t201 = true then (if x11.size + x15.size ≤ 9223372036854775807 then ((targumlaw2_whole.f (x11 ++ x15)).bind fun bt202 => ((brk_Blank.f (x11 ++ x15) bt202.1 bt202.2.1 bt202.2.2).bind fun t205 => (if t205 = true then ((targumlaw2_whole.f ((x13 ++ x15) ++ x1)).bind fun bt206 => ((brk_Blank.f ((x13 ++ x15) ++ x1) bt206.1 bt206.2.1 bt206.2.2).bind fun t209 => (some (!t209)))) else (some false)))) else (none)) else (some false))))))) else (some false)))) else (some false)))) else (none)) else (some false)))) else (none)) else (none)) else (some false)))) else (some false)))) else (none)) else (none)) else (none)) else (none)
end
def targumlaw2_BrkBegins.f (k : Nat) (a0 : Int) (a1 : ByteArray) (a2 : Bool) (a3 : Bool) : Option (Bool) := (targumlaw2_known.f k).bind fun t172 => (if t172 = true then (if (a1.size : Int) > 50 then (some true) else (targumlaw2_BrkBegins.l0 k a0 a1 a2 a3 0)) else (some false))
theorem targumlaw2_BrkBegins.mono_l : ∀ k, (∀ y0 y1 y2 y3 y4, LeO (targumlaw2_BrkBegins.l0 k y0 y1 y2 y3 y4) (targumlaw2_BrkBegins.l0 (k + 1) y0 y1 y2 y3 y4)) ∧ (∀ y0 y1 y2 y3 y4 y5, LeO (targumlaw2_BrkBegins.l1 k y0 y1 y2 y3 y4 y5) (targumlaw2_BrkBegins.l1 (k + 1) y0 y1 y2 y3 y4 y5)) ∧ (∀ y0 y1 y2 y3 y4 y5, LeO (targumlaw2_BrkBegins.j2 k y0 y1 y2 y3 y4 y5) (targumlaw2_BrkBegins.j2 (k + 1) y0 y1 y2 y3 y4 y5)) ∧ (∀ y0 y1 y2 y3 y4 y5, LeO (targumlaw2_BrkBegins.j3 k y0 y1 y2 y3 y4 y5) (targumlaw2_BrkBegins.j3 (k + 1) y0 y1 y2 y3 y4 y5))
  | 0 => ⟨fun _ _ _ _ _ r h => by simp [targumlaw2_BrkBegins.l0] at h, fun _ _ _ _ _ _ r h => by simp [targumlaw2_BrkBegins.l1] at h, fun _ _ _ _ _ _ r h => by simp [targumlaw2_BrkBegins.j2] at h, fun _ _ _ _ _ _ r h => by simp [targumlaw2_BrkBegins.j3] at h⟩
  | k + 1 => by
    obtain ⟨ih0, ih1, ih2, ih3⟩ := targumlaw2_BrkBegins.mono_l k
    refine ⟨?_, ?_, ?_, ?_⟩
    · intro y0 y1 y2 y3 y4
      unfold targumlaw2_BrkBegins.l0
      repeat' first
      | (with_reducible exact ih0 _ _ _ _ _)
      | (with_reducible exact ih1 _ _ _ _ _ _)
      | (with_reducible exact ih2 _ _ _ _ _ _)
      | (with_reducible exact ih3 _ _ _ _ _ _)
      | (with_reducible exact brk_Marker.mono _ _ _ _ _)
      | (with_reducible exact targumlaw2_known.mono _)
      | (with_reducible exact targumref1_Break.mono _ _ _ _)
      | (with_reducible exact LeO.refl _)
      | (with_reducible exact LeO.none _)
      | (with_reducible refine LeO.ite ?_ ?_)
      | (with_reducible refine LeO.bind ?_ (fun _ => ?_))
      | exact ih0 _ _ _ _ _
      | exact ih1 _ _ _ _ _ _
      | exact ih2 _ _ _ _ _ _
      | exact ih3 _ _ _ _ _ _
      | exact brk_Marker.mono _ _ _ _ _
      | exact targumlaw2_known.mono _
      | exact targumref1_Break.mono _ _ _ _
      | exact LeO.none _
      | refine LeO.ite ?_ ?_
      | refine LeO.bind ?_ (fun _ => ?_)
    · intro y0 y1 y2 y3 y4 y5
      unfold targumlaw2_BrkBegins.l1
      repeat' first
      | (with_reducible exact ih0 _ _ _ _ _)
      | (with_reducible exact ih1 _ _ _ _ _ _)
      | (with_reducible exact ih2 _ _ _ _ _ _)
      | (with_reducible exact ih3 _ _ _ _ _ _)
      | (with_reducible exact brk_Marker.mono _ _ _ _ _)
      | (with_reducible exact targumlaw2_known.mono _)
      | (with_reducible exact targumref1_Break.mono _ _ _ _)
      | (with_reducible exact LeO.refl _)
      | (with_reducible exact LeO.none _)
      | (with_reducible refine LeO.ite ?_ ?_)
      | (with_reducible refine LeO.bind ?_ (fun _ => ?_))
      | exact ih0 _ _ _ _ _
      | exact ih1 _ _ _ _ _ _
      | exact ih2 _ _ _ _ _ _
      | exact ih3 _ _ _ _ _ _
      | exact brk_Marker.mono _ _ _ _ _
      | exact targumlaw2_known.mono _
      | exact targumref1_Break.mono _ _ _ _
      | exact LeO.none _
      | refine LeO.ite ?_ ?_
      | refine LeO.bind ?_ (fun _ => ?_)
    · intro y0 y1 y2 y3 y4 y5
      unfold targumlaw2_BrkBegins.j2
      repeat' first
      | (with_reducible exact ih0 _ _ _ _ _)
      | (with_reducible exact ih1 _ _ _ _ _ _)
      | (with_reducible exact ih2 _ _ _ _ _ _)
      | (with_reducible exact ih3 _ _ _ _ _ _)
      | (with_reducible exact brk_Marker.mono _ _ _ _ _)
      | (with_reducible exact targumlaw2_known.mono _)
      | (with_reducible exact targumref1_Break.mono _ _ _ _)
      | (with_reducible exact LeO.refl _)
      | (with_reducible exact LeO.none _)
      | (with_reducible refine LeO.ite ?_ ?_)
      | (with_reducible refine LeO.bind ?_ (fun _ => ?_))
      | exact ih0 _ _ _ _ _
      | exact ih1 _ _ _ _ _ _
      | exact ih2 _ _ _ _ _ _
      | exact ih3 _ _ _ _ _ _
      | exact brk_Marker.mono _ _ _ _ _
      | exact targumlaw2_known.mono _
      | exact targumref1_Break.mono _ _ _ _
      | exact LeO.none _
      | refine LeO.ite ?_ ?_
      | refine LeO.bind ?_ (fun _ => ?_)
    · intro y0 y1 y2 y3 y4 y5
      unfold targumlaw2_BrkBegins.j3
      repeat' first
      | (with_reducible exact ih0 _ _ _ _ _)
      | (with_reducible exact ih1 _ _ _ _ _ _)
      | (with_reducible exact ih2 _ _ _ _ _ _)
      | (with_reducible exact ih3 _ _ _ _ _ _)
      | (with_reducible exact brk_Marker.mono _ _ _ _ _)
      | (with_reducible exact targumlaw2_known.mono _)
      | (with_reducible exact targumref1_Break.mono _ _ _ _)
      | (with_reducible exact LeO.refl _)
      | (with_reducible exact LeO.none _)
      | (with_reducible refine LeO.ite ?_ ?_)
      | (with_reducible refine LeO.bind ?_ (fun _ => ?_))
      | exact ih0 _ _ _ _ _
      | exact ih1 _ _ _ _ _ _
      | exact ih2 _ _ _ _ _ _
      | exact ih3 _ _ _ _ _ _
      | exact brk_Marker.mono _ _ _ _ _
      | exact targumlaw2_known.mono _
      | exact targumref1_Break.mono _ _ _ _
      | exact LeO.none _
      | refine LeO.ite ?_ ?_
      | refine LeO.bind ?_ (fun _ => ?_)
theorem targumlaw2_BrkBegins.mono : ∀ a0 a1 a2 a3 k, LeO (targumlaw2_BrkBegins.f k a0 a1 a2 a3) (targumlaw2_BrkBegins.f (k + 1) a0 a1 a2 a3) := by
  intro a0 a1 a2 a3 k
  obtain ⟨ih0, ih1, ih2, ih3⟩ := targumlaw2_BrkBegins.mono_l k
  unfold targumlaw2_BrkBegins.f
  repeat' first
      | (with_reducible exact ih0 _ _ _ _ _)
      | (with_reducible exact ih1 _ _ _ _ _ _)
      | (with_reducible exact ih2 _ _ _ _ _ _)
      | (with_reducible exact ih3 _ _ _ _ _ _)
      | (with_reducible exact brk_Marker.mono _ _ _ _ _)
      | (with_reducible exact targumlaw2_known.mono _)
      | (with_reducible exact targumref1_Break.mono _ _ _ _)
      | (with_reducible exact LeO.refl _)
      | (with_reducible exact LeO.none _)
      | (with_reducible refine LeO.ite ?_ ?_)
      | (with_reducible refine LeO.bind ?_ (fun _ => ?_))
      | exact ih0 _ _ _ _ _
      | exact ih1 _ _ _ _ _ _
      | exact ih2 _ _ _ _ _ _
      | exact ih3 _ _ _ _ _ _
      | exact brk_Marker.mono _ _ _ _ _
      | exact targumlaw2_known.mono _
      | exact targumref1_Break.mono _ _ _ _
      | exact LeO.none _
      | refine LeO.ite ?_ ?_
      | refine LeO.bind ?_ (fun _ => ?_)
set_option maxHeartbeats 40000000 in
set_option maxRecDepth 100000 in
theorem targumlaw2_BrkBegins.calls (k : Nat) (a0 : Int) (a1 : ByteArray) (a2 : Bool) (a3 : Bool) (r : Bool) (w : World) (hG : Lib.Utf8Tabs 0 1 w) (h : targumlaw2_BrkBegins.f k a0 a1 a2 a3 = some r) :
    Calls Tryd.prog 8 #[.int .u8 a0, .string a1, .bool a2, .bool a3] w fun e w' => e = .returned (.bool r) ∧ Below w.heap.size w w' := by
  have HG := Aside0.mk hG
  clear hG
  have HB := Aside0.mk (Below.refl w.heap.size w)
  have H : ((targumlaw2_known.f k).bind fun t172 => (if t172 = true then (if (a1.size : Int) > 50 then (some true) else (targumlaw2_BrkBegins.l0 k a0 a1 a2 a3 0)) else (some false))) = some r := h
  clear h
  replace H := Option.bind_eq_some_iff.mp H
  obtain ⟨t172, A50, H⟩ := H
  replace H : (if t172 = true then (if (a1.size : Int) > 50 then (some true) else (targumlaw2_BrkBegins.l0 k a0 a1 a2 a3 0)) else (some false)) = some r := H
  have A5 := Aside0.mk A50
  clear A50
  by_cases c6 : t172 = true
  · subst c6
    have H1 : (if (a1.size : Int) > 50 then (some true) else (targumlaw2_BrkBegins.l0 k a0 a1 a2 a3 0)) = some r := by rw [if_pos rfl] at H; exact H
    clear H
    have H := H1
    clear H1
    by_cases c7 : (a1.size : Int) > 50
    · rw [if_pos c7] at H
      have c7b0 : decide (50 < (a1.size : Int)) = true := decide_eq_true c7
      have c7b1 : decide (50 < a1.size) = true := decide_eq_true (by omega)
      clear c7
      obtain rfl := Option.some.inj H
      go_enter Tryd.func8, Tryd.ntmps8
      go_wp2_with (first | ((with_reducible refine gate_callee (f := 9) rfl ?_); refine goesL_ (some 18) rfl rfl Tryd.func9 (by kernel_rfl) rfl #[] rfl (by (try simp only [List.map_toArray, List.map_cons, List.map_nil]); first | done | rfl | (simp only [List.length_drop, List.length_take]; rfl)) ?_; (with_reducible refine (targumlaw2_known.calls k  true _ ?side1 A5.out).mono ?_); (case side1 => exact Utf8Tabs_below HG.out (by repeat (first | (with_reducible first | exact HB.out | apply below_alloc | apply pw_below_drewN | apply below_drew1) | exact HB.out))); rintro e w8 ⟨rfl, hb⟩; refine ⟨_, rfl, ?_⟩; have n0_ := Aside0.mk (below_step (by repeat (first | (with_reducible first | exact HB.out | apply below_alloc | apply pw_below_drewN | apply below_drew1) | exact HB.out)) hb); clear HB; have HB := n0_; clear n0_; (try clear hb); (try clear hb2); (try clear hk); (try clear hi)))
      go_ret
      exact ⟨by first | rfl | (simp [errW_none, errW_some] <;> rfl) | (simp [*, errW_none, errW_some] <;> rfl), by repeat (first | (with_reducible first | exact HB.out | apply below_alloc | apply pw_below_drewN | apply below_drew1) | exact HB.out)⟩
    · rw [if_neg c7] at H
      have c7b0 : decide (50 < (a1.size : Int)) = false := decide_eq_false c7
      have c7b1 : decide (50 < a1.size) = false := decide_eq_false (by omega)
      clear c7
      have H' := Aside0.mk H
      clear H
      go_enter Tryd.func8, Tryd.ntmps8
      go_wp2_with (first | ((with_reducible refine gate_callee (f := 9) rfl ?_); refine goesL_ (some 18) rfl rfl Tryd.func9 (by kernel_rfl) rfl #[] rfl (by (try simp only [List.map_toArray, List.map_cons, List.map_nil]); first | done | rfl | (simp only [List.length_drop, List.length_take]; rfl)) ?_; (with_reducible refine (targumlaw2_known.calls k  true _ ?side1 A5.out).mono ?_); (case side1 => exact Utf8Tabs_below HG.out (by repeat (first | (with_reducible first | exact HB.out | apply below_alloc | apply pw_below_drewN | apply below_drew1) | exact HB.out))); rintro e w9 ⟨rfl, hb⟩; refine ⟨_, rfl, ?_⟩; have n0_ := Aside0.mk (below_step (by repeat (first | (with_reducible first | exact HB.out | apply below_alloc | apply pw_below_drewN | apply below_drew1) | exact HB.out)) hb); clear HB; have HB := n0_; clear n0_; (try clear hb); (try clear hb2); (try clear hk); (try clear hi)))
      go_loopg [9] k (fun kq v9 w' => ∃ (x9_1 : Int), v9 = .int .i64 x9_1 ∧ Aside0 (targumlaw2_BrkBegins.l0 kq a0 a1 a2 a3 x9_1 = some r) ∧ Aside0 (kq ≤ k) ∧ Aside0 (Below w.heap.size w w'))
      case atStart => exact ⟨(0), (by first | rfl | (simp; done) | (simp [*]; done) | (simp [wrap64]; done)), H', ⟨Nat.le_refl _⟩, ⟨by repeat (first | (with_reducible first | exact HB.out | apply below_alloc | apply pw_below_drewN | apply below_drew1) | exact HB.out)⟩⟩
      case round =>
        clear H'
        try clear p2
        try clear c6
        try clear c7
        try clear c7b0
        try clear c7b1
        try clear c8
        try clear c9
        obtain ⟨x9_1, rfl, HA, HK1, HB⟩ := hrel
        cases gk with
        | zero => exact absurd HA.out (by simp [targumlaw2_BrkBegins.l0])
        | succ k1 =>
          have H := HA.out
          clear HA
          simp only [targumlaw2_BrkBegins.l0] at H
          by_cases c10 : x9_1 < (a1.size : Int)
          · rw [if_pos c10] at H
            have c10b0 : decide (x9_1 < (a1.size : Int)) = true := decide_eq_true c10
            clear c10
            replace H := Option.bind_eq_some_iff.mp H
            obtain ⟨t173, A110, H⟩ := H
            replace H : (if t173 > 0 then (some true) else (targumlaw2_BrkBegins.l0 k1 a0 a1 a2 a3 (wrap64 (x9_1 + 1)))) = some r := H
            have A11 := Aside0.mk A110
            clear A110
            by_cases c12 : t173 > 0
            · rw [if_pos c12] at H
              have c12b0 : decide (0 < t173) = true := decide_eq_true c12
              clear c12
              obtain rfl := Option.some.inj H
              go_wp2_with (first | ((with_reducible refine gate_callee (f := 15) rfl ?_); refine goesL_ (some 31) rfl rfl Tryd.func15 (by kernel_rfl) rfl #[.int .i64 11, .string a1, .int .i64 x9_1] rfl (by (try simp only [List.map_toArray, List.map_cons, List.map_nil]); first | done | rfl | (simp only [List.length_drop, List.length_take]; rfl)) ?_; (with_reducible refine (targumref1_Break.calls k1 11 a1 x9_1 t173 _ A11.out).mono ?_); rintro e w' ⟨rfl, ⟨nd, rfl⟩⟩; refine ⟨_, rfl, ?_⟩))
              go_ret
              exact ⟨by first | rfl | (simp [errW_none, errW_some] <;> rfl) | (simp [*, errW_none, errW_some] <;> rfl), by repeat (first | (with_reducible first | exact HB.out | apply below_alloc | apply pw_below_drewN | apply below_drew1) | exact HB.out)⟩
            · rw [if_neg c12] at H
              have c12b0 : decide (0 < t173) = false := decide_eq_false c12
              clear c12
              have H' := Aside0.mk H
              clear H
              go_wp2_with (first | ((with_reducible refine gate_callee (f := 15) rfl ?_); refine goesL_ (some 31) rfl rfl Tryd.func15 (by kernel_rfl) rfl #[.int .i64 11, .string a1, .int .i64 x9_1] rfl (by (try simp only [List.map_toArray, List.map_cons, List.map_nil]); first | done | rfl | (simp only [List.length_drop, List.length_take]; rfl)) ?_; (with_reducible refine (targumref1_Break.calls k1 11 a1 x9_1 t173 _ A11.out).mono ?_); rintro e w' ⟨rfl, ⟨nd, rfl⟩⟩; refine ⟨_, rfl, ?_⟩))
              go_roundg k1
              case measure => have := HK1.out; omega
              case rel => exact ⟨(wrap64 (x9_1 + 1)), (by first | rfl | (simp; done) | (simp [*]; done) | (simp [wrap64]; done)), H', ⟨by have := HK1.out; omega⟩, ⟨by repeat (first | (with_reducible first | exact HB.out | apply below_alloc | apply pw_below_drewN | apply below_drew1) | exact HB.out)⟩⟩
          · rw [if_neg c10] at H
            have c10b0 : decide (x9_1 < (a1.size : Int)) = false := decide_eq_false c10
            clear c10
            have H' := Aside0.mk H
            clear H
            go_wp2
            go_loopg [11, 12] k1 (fun kq v11 v12 w' => ∃ (x11_2 : ByteArray) (x12_2 : Int), v11 = .string x11_2 ∧ v12 = .int .i64 x12_2 ∧ Aside0 (targumlaw2_BrkBegins.l1 kq a1 a2 a3 (wrap64 (Int.tmod a0 40)) x11_2 x12_2 = some r) ∧ Aside0 (kq ≤ k1) ∧ Aside0 (Below w.heap.size w w'))
            case atStart => exact ⟨((⟨#[]⟩ : ByteArray)), (0), (by first | rfl | (simp; done) | (simp [*]; done) | (simp [wrap64]; done)), (by first | rfl | (simp; done) | (simp [*]; done) | (simp [wrap64]; done)), H', ⟨Nat.le_refl _⟩, ⟨by repeat (first | (with_reducible first | exact HB.out | apply below_alloc | apply pw_below_drewN | apply below_drew1) | exact HB.out)⟩⟩
            case round =>
              clear H'
              try clear c1
              try clear p2
              try clear c6
              try clear p6
              try clear c7
              try clear c7b0
              try clear c7b1
              try clear c8
              try clear c9
              try clear c10
              try clear c10b0
              try clear c12
              try clear c12b0
              try clear p2
              obtain ⟨x11_2, x12_2, rfl, rfl, HA, HK2, HB⟩ := hrel
              cases gk with
              | zero => exact absurd HA.out (by simp [targumlaw2_BrkBegins.l1])
              | succ k2 =>
                have H := HA.out
                clear HA
                simp only [targumlaw2_BrkBegins.l1] at H
                by_cases c13 : x12_2 < (wrap64 (Int.tmod a0 40))
                · rw [if_pos c13] at H
                  have c13b0 : decide (x12_2 < (wrap64 (Int.tmod a0 40))) = true := decide_eq_true c13
                  clear c13
                  by_cases c14 : x11_2.size + 1 ≤ 9223372036854775807
                  · rw [if_pos c14] at H
                    have c14b0 := eq_true c14
                    have c14b1 : decide (x11_2.size + 1 ≤ 9223372036854775807) = true := decide_eq_true c14
                    try have c14b2 : (9223372036854775807 < x11_2.size + 1) = False := eq_false (Nat.not_lt.2 c14)
                    have H' := Aside0.mk H
                    clear H
                    go_wp2
                    go_roundg k2
                    case measure => have := HK1.out; have := HK2.out; omega
                    case rel => exact ⟨(x11_2 ++ (⟨#[32]⟩ : ByteArray)), (wrap64 (x12_2 + 1)), (by first | rfl | (simp; done) | (simp [*]; done) | (simp [wrap64]; done)), (by first | rfl | (simp; done) | (simp [*]; done) | (simp [wrap64]; done)), H', ⟨by have := HK1.out; have := HK2.out; omega⟩, ⟨by repeat (first | (with_reducible first | exact HB.out | apply below_alloc | apply pw_below_drewN | apply below_drew1) | exact HB.out)⟩⟩
                  · rw [if_neg c14] at H
                    exact absurd H (by simp)
                · rw [if_neg c13] at H
                  have c13b0 : decide (x12_2 < (wrap64 (Int.tmod a0 40))) = false := decide_eq_false c13
                  clear c13
                  have HC15 := Aside0.mk H
                  clear H
                  go_upto_if 43 with (fail)
                  go_cut [13, 14] (fun v13 v14 wc => ∃ (kq : Nat) (x13_14 : ByteArray) (x14_14 : Int), v13 = .string x13_14 ∧ v14 = .int .i64 x14_14 ∧ Aside0 (targumlaw2_BrkBegins.j2 kq a1 a3 (wrap64 (Int.tmod a0 40)) x11_2 x13_14 x14_14 = some r) ∧ Aside0 (kq ≤ k2) ∧ Aside0 (Below w.heap.size w wc))
                  case first =>
                    have H := HC15.out
                    clear HC15
                    by_cases c16 : a2 = true
                    · subst c16
                      have H1 : (targumlaw2_BrkBegins.j2 k2 a1 a3 (wrap64 (Int.tmod a0 40)) x11_2 (⟨#[46, 46, 46]⟩ : ByteArray) 2) = some r := by rw [if_pos rfl] at H; exact H
                      clear H
                      have H := H1
                      clear H1
                      have H' := Aside0.mk H
                      clear H
                      go_wp2
                      go_meet
                      case rel => exact ⟨_, ((⟨#[46, 46, 46]⟩ : ByteArray)), (2), (by first | rfl | (simp; done) | (simp [*]; done) | (simp [wrap64]; done)), (by first | rfl | (simp; done) | (simp [*]; done) | (simp [wrap64]; done)), H', ⟨by have := HK1.out; have := HK2.out; first | omega | exact Nat.le_refl _⟩, ⟨by repeat (first | (with_reducible first | exact HB.out | apply below_alloc | apply pw_below_drewN | apply below_drew1) | exact HB.out)⟩⟩
                    · replace c16 := Bool.eq_false_iff.mpr c16
                      subst c16
                      have H1 : (targumlaw2_BrkBegins.j2 k2 a1 a3 (wrap64 (Int.tmod a0 40)) x11_2 (⟨#[45, 45, 45]⟩ : ByteArray) 1) = some r := by rw [if_neg (show ¬ (false = true) by decide)] at H; exact H
                      clear H
                      have H := H1
                      clear H1
                      have H' := Aside0.mk H
                      clear H
                      go_wp2
                      go_meet
                      case rel => exact ⟨_, ((⟨#[45, 45, 45]⟩ : ByteArray)), (1), (by first | rfl | (simp; done) | (simp [*]; done) | (simp [wrap64]; done)), (by first | rfl | (simp; done) | (simp [*]; done) | (simp [wrap64]; done)), H', ⟨by have := HK1.out; have := HK2.out; first | omega | exact Nat.le_refl _⟩, ⟨by repeat (first | (with_reducible first | exact HB.out | apply below_alloc | apply pw_below_drewN | apply below_drew1) | exact HB.out)⟩⟩
                  case rest =>
                    clear HC15
                    try clear c1
                    try clear p2
                    try clear c6
                    try clear p6
                    try clear c7
                    try clear c7b0
                    try clear c7b1
                    try clear c8
                    try clear c9
                    try clear c10
                    try clear c10b0
                    try clear c12
                    try clear c12b0
                    try clear c13
                    try clear c13b0
                    try clear c14
                    try clear c14b0
                    try clear c14b1
                    try clear c14b2
                    try clear c15
                    try clear c16
                    try clear p2
                    try clear p6
                    obtain ⟨kq, x13_14, x14_14, rfl, rfl, HA, HJ14, HB⟩ := hcut
                    cases kq with
                    | zero => exact absurd HA.out (by simp [targumlaw2_BrkBegins.j2])
                    | succ kj14 =>
                      have H := HA.out
                      clear HA
                      simp only [targumlaw2_BrkBegins.j2] at H
                      have HC17 := Aside0.mk H
                      clear H
                      go_upto_if 44 with (fail)
                      go_cut [15] (fun v15 wc => ∃ (kq : Nat) (x15_16 : ByteArray), v15 = .string x15_16 ∧ Aside0 (targumlaw2_BrkBegins.j3 kq a1 (wrap64 (Int.tmod a0 40)) x11_2 x13_14 x14_14 x15_16 = some r) ∧ Aside0 (kq ≤ kj14) ∧ Aside0 (Below w.heap.size w wc))
                      case first =>
                        have H := HC17.out
                        clear HC17
                        by_cases c18 : a3 = true
                        · subst c18
                          have H1 : (targumlaw2_BrkBegins.j3 kj14 a1 (wrap64 (Int.tmod a0 40)) x11_2 x13_14 x14_14 (⟨#[9]⟩ : ByteArray)) = some r := by rw [if_pos rfl] at H; exact H
                          clear H
                          have H := H1
                          clear H1
                          have H' := Aside0.mk H
                          clear H
                          go_wp2
                          go_meet
                          case rel => exact ⟨_, ((⟨#[9]⟩ : ByteArray)), (by first | rfl | (simp; done) | (simp [*]; done) | (simp [wrap64]; done)), H', ⟨by have := HK1.out; have := HK2.out; have := HJ14.out; first | omega | exact Nat.le_refl _⟩, ⟨by repeat (first | (with_reducible first | exact HB.out | apply below_alloc | apply pw_below_drewN | apply below_drew1) | exact HB.out)⟩⟩
                        · replace c18 := Bool.eq_false_iff.mpr c18
                          subst c18
                          have H1 : (targumlaw2_BrkBegins.j3 kj14 a1 (wrap64 (Int.tmod a0 40)) x11_2 x13_14 x14_14 (⟨#[32]⟩ : ByteArray)) = some r := by rw [if_neg (show ¬ (false = true) by decide)] at H; exact H
                          clear H
                          have H := H1
                          clear H1
                          have H' := Aside0.mk H
                          clear H
                          go_wp2
                          go_meet
                          case rel => exact ⟨_, ((⟨#[32]⟩ : ByteArray)), (by first | rfl | (simp; done) | (simp [*]; done) | (simp [wrap64]; done)), H', ⟨by have := HK1.out; have := HK2.out; have := HJ14.out; first | omega | exact Nat.le_refl _⟩, ⟨by repeat (first | (with_reducible first | exact HB.out | apply below_alloc | apply pw_below_drewN | apply below_drew1) | exact HB.out)⟩⟩
                      case rest =>
                        clear HC17
                        try clear c1
                        try clear p2
                        try clear c6
                        try clear p6
                        try clear c7
                        try clear c7b0
                        try clear c7b1
                        try clear c8
                        try clear c9
                        try clear c10
                        try clear c10b0
                        try clear c12
                        try clear c12b0
                        try clear c13
                        try clear c13b0
                        try clear c14
                        try clear c14b0
                        try clear c14b1
                        try clear c14b2
                        try clear c15
                        try clear c16
                        try clear c18
                        try clear p2
                        try clear p6
                        obtain ⟨kq, x15_16, rfl, HA, HJ16, HB⟩ := hcut
                        cases kq with
                        | zero => exact absurd HA.out (by simp [targumlaw2_BrkBegins.j3])
                        | succ kj16 =>
                          have H := HA.out
                          clear HA
                          simp only [targumlaw2_BrkBegins.j3] at H
                          by_cases c19 : x13_14.size + x15_16.size ≤ 9223372036854775807
                          · rw [if_pos c19] at H
                            have c19b0 := eq_true c19
                            have c19b1 : decide (x13_14.size + x15_16.size ≤ 9223372036854775807) = true := decide_eq_true c19
                            try have c19b2 : (9223372036854775807 < x13_14.size + x15_16.size) = False := eq_false (Nat.not_lt.2 c19)
                            by_cases c20 : (x13_14 ++ x15_16).size + a1.size ≤ 9223372036854775807
                            · rw [if_pos c20] at H
                              have c20b0 := eq_true c20
                              have c20b1 : decide ((x13_14 ++ x15_16).size + a1.size ≤ 9223372036854775807) = true := decide_eq_true c20
                              try have c20b2 : (9223372036854775807 < (x13_14 ++ x15_16).size + a1.size) = False := eq_false (Nat.not_lt.2 c20)
                              try have c20b3 : (9223372036854775807 < x13_14.size + x15_16.size + a1.size) = False := eq_false (Nat.not_lt.2 (by have z_ := c20; simp only [ByteArray.size_append] at z_; exact z_))
                              by_cases c21 : x11_2.size + 1 ≤ 9223372036854775807
                              · rw [if_pos c21] at H
                                have c21b0 := eq_true c21
                                have c21b1 : decide (x11_2.size + 1 ≤ 9223372036854775807) = true := decide_eq_true c21
                                try have c21b2 : (9223372036854775807 < x11_2.size + 1) = False := eq_false (Nat.not_lt.2 c21)
                                by_cases c22 : (x11_2 ++ (⟨#[120]⟩ : ByteArray)).size + a1.size ≤ 9223372036854775807
                                · rw [if_pos c22] at H
                                  have c22b0 := eq_true c22
                                  have c22b1 : decide ((x11_2 ++ (⟨#[120]⟩ : ByteArray)).size + a1.size ≤ 9223372036854775807) = true := decide_eq_true c22
                                  try have c22b2 : (9223372036854775807 < (x11_2 ++ (⟨#[120]⟩ : ByteArray)).size + a1.size) = False := eq_false (Nat.not_lt.2 c22)
                                  try have c22b3 : (9223372036854775807 < x11_2.size + 1 + a1.size) = False := eq_false (Nat.not_lt.2 (by have z_ := c22; simp only [ByteArray.size_append] at z_; exact z_))
                                  replace H := Option.bind_eq_some_iff.mp H
                                  obtain ⟨⟨t174, t175, t176⟩, A230, H⟩ := H
                                  replace H : ((brk_Marker.f kj16 ((x13_14 ++ x15_16) ++ a1) t174 t175 t176).bind fun t177 => (if t177 = x14_14 then ((targumlaw2_whole.f x13_14).bind fun bt178 => ((brk_Marker.f kj16 x13_14 bt178.1 bt178.2.1 bt178.2.2).bind fun t181 => (if t181 = x14_14 then (if x13_14.size + 1 ≤ 9223372036854775807 then (if (x13_14 ++ (⟨#[120]⟩ : ByteArray)).size + a1.size ≤ 9223372036854775807 then ((targumlaw2_whole.f ((x13_14 ++ (⟨#[120]⟩ : ByteArray)) ++ a1)).bind fun bt182 => ((brk_Marker.f kj16 ((x13_14 ++ (⟨#[120]⟩ : ByteArray)) ++ a1) bt182.1 bt182.2.1 bt182.2.2).bind fun t185 => (if t185 = 0 then (if 1 + ((x13_14 ++ x15_16) ++ a1).size ≤ 9223372036854775807 then ((targumlaw2_whole.f ((⟨#[32]⟩ : ByteArray) ++ ((x13_14 ++ x15_16) ++ a1))).bind fun bt186 => ((brk_Marker.f kj16 ((⟨#[32]⟩ : ByteArray) ++ ((x13_14 ++ x15_16) ++ a1)) bt186.1 bt186.2.1 bt186.2.2).bind fun t189 => (if t189 = 0 then ((targumlaw2_whole.f ((x11_2 ++ (⟨#[120]⟩ : ByteArray)) ++ a1)).bind fun bt190 => ((brk_Indent.f ((x11_2 ++ (⟨#[120]⟩ : ByteArray)) ++ a1) bt190.1 bt190.2.1 bt190.2.2).bind fun t193 => (if t193 = (wrap64 (Int.tmod a0 40)) then ((targumlaw2_whole.f ((x11_2 ++ (⟨#[120]⟩ : ByteArray)) ++ a1)).bind fun bt194 => ((brk_Blank.f ((x11_2 ++ (⟨#[120]⟩ : ByteArray)) ++ a1) bt194.1 bt194.2.1 bt194.2.2).bind fun t197 => (if t197 = true then (some false) else ((targumlaw2_whole.f x11_2).bind fun bt198 => ((brk_Blank.f x11_2 bt198.1 bt198.2.1 bt198.2.2).bind fun t201 => (if t201 = true then (if x11_2.size + x15_16.size ≤ 9223372036854775807 then ((targumlaw2_whole.f (x11_2 ++ x15_16)).bind fun bt202 => ((brk_Blank.f (x11_2 ++ x15_16) bt202.1 bt202.2.1 bt202.2.2).bind fun t205 => (if t205 = true then ((targumlaw2_whole.f ((x13_14 ++ x15_16) ++ a1)).bind fun bt206 => ((brk_Blank.f ((x13_14 ++ x15_16) ++ a1) bt206.1 bt206.2.1 bt206.2.2).bind fun t209 => (some (!t209)))) else (some false)))) else (none)) else (some false))))))) else (some false)))) else (some false)))) else (none)) else (some false)))) else (none)) else (none)) else (some false)))) else (some false))) = some r := H
                                  have A23 := Aside0.mk A230
                                  clear A230
                                  replace H := Option.bind_eq_some_iff.mp H
                                  obtain ⟨t177, A240, H⟩ := H
                                  replace H : (if t177 = x14_14 then ((targumlaw2_whole.f x13_14).bind fun bt178 => ((brk_Marker.f kj16 x13_14 bt178.1 bt178.2.1 bt178.2.2).bind fun t181 => (if t181 = x14_14 then (if x13_14.size + 1 ≤ 9223372036854775807 then (if (x13_14 ++ (⟨#[120]⟩ : ByteArray)).size + a1.size ≤ 9223372036854775807 then ((targumlaw2_whole.f ((x13_14 ++ (⟨#[120]⟩ : ByteArray)) ++ a1)).bind fun bt182 => ((brk_Marker.f kj16 ((x13_14 ++ (⟨#[120]⟩ : ByteArray)) ++ a1) bt182.1 bt182.2.1 bt182.2.2).bind fun t185 => (if t185 = 0 then (if 1 + ((x13_14 ++ x15_16) ++ a1).size ≤ 9223372036854775807 then ((targumlaw2_whole.f ((⟨#[32]⟩ : ByteArray) ++ ((x13_14 ++ x15_16) ++ a1))).bind fun bt186 => ((brk_Marker.f kj16 ((⟨#[32]⟩ : ByteArray) ++ ((x13_14 ++ x15_16) ++ a1)) bt186.1 bt186.2.1 bt186.2.2).bind fun t189 => (if t189 = 0 then ((targumlaw2_whole.f ((x11_2 ++ (⟨#[120]⟩ : ByteArray)) ++ a1)).bind fun bt190 => ((brk_Indent.f ((x11_2 ++ (⟨#[120]⟩ : ByteArray)) ++ a1) bt190.1 bt190.2.1 bt190.2.2).bind fun t193 => (if t193 = (wrap64 (Int.tmod a0 40)) then ((targumlaw2_whole.f ((x11_2 ++ (⟨#[120]⟩ : ByteArray)) ++ a1)).bind fun bt194 => ((brk_Blank.f ((x11_2 ++ (⟨#[120]⟩ : ByteArray)) ++ a1) bt194.1 bt194.2.1 bt194.2.2).bind fun t197 => (if t197 = true then (some false) else ((targumlaw2_whole.f x11_2).bind fun bt198 => ((brk_Blank.f x11_2 bt198.1 bt198.2.1 bt198.2.2).bind fun t201 => (if t201 = true then (if x11_2.size + x15_16.size ≤ 9223372036854775807 then ((targumlaw2_whole.f (x11_2 ++ x15_16)).bind fun bt202 => ((brk_Blank.f (x11_2 ++ x15_16) bt202.1 bt202.2.1 bt202.2.2).bind fun t205 => (if t205 = true then ((targumlaw2_whole.f ((x13_14 ++ x15_16) ++ a1)).bind fun bt206 => ((brk_Blank.f ((x13_14 ++ x15_16) ++ a1) bt206.1 bt206.2.1 bt206.2.2).bind fun t209 => (some (!t209)))) else (some false)))) else (none)) else (some false))))))) else (some false)))) else (some false)))) else (none)) else (some false)))) else (none)) else (none)) else (some false)))) else (some false)) = some r := H
                                  have A24 := Aside0.mk A240
                                  clear A240
                                  by_cases c25 : t177 = x14_14
                                  · rw [if_pos c25] at H
                                    have c25b0 : (t177 == x14_14) = true := beq_iff_eq.mpr c25
                                    have c25b1 : (t177 != x14_14) = false := bne_eq_false_iff_eq.mpr c25
                                    clear c25
                                    replace H := Option.bind_eq_some_iff.mp H
                                    obtain ⟨⟨t178, t179, t180⟩, A260, H⟩ := H
                                    replace H : ((brk_Marker.f kj16 x13_14 t178 t179 t180).bind fun t181 => (if t181 = x14_14 then (if x13_14.size + 1 ≤ 9223372036854775807 then (if (x13_14 ++ (⟨#[120]⟩ : ByteArray)).size + a1.size ≤ 9223372036854775807 then ((targumlaw2_whole.f ((x13_14 ++ (⟨#[120]⟩ : ByteArray)) ++ a1)).bind fun bt182 => ((brk_Marker.f kj16 ((x13_14 ++ (⟨#[120]⟩ : ByteArray)) ++ a1) bt182.1 bt182.2.1 bt182.2.2).bind fun t185 => (if t185 = 0 then (if 1 + ((x13_14 ++ x15_16) ++ a1).size ≤ 9223372036854775807 then ((targumlaw2_whole.f ((⟨#[32]⟩ : ByteArray) ++ ((x13_14 ++ x15_16) ++ a1))).bind fun bt186 => ((brk_Marker.f kj16 ((⟨#[32]⟩ : ByteArray) ++ ((x13_14 ++ x15_16) ++ a1)) bt186.1 bt186.2.1 bt186.2.2).bind fun t189 => (if t189 = 0 then ((targumlaw2_whole.f ((x11_2 ++ (⟨#[120]⟩ : ByteArray)) ++ a1)).bind fun bt190 => ((brk_Indent.f ((x11_2 ++ (⟨#[120]⟩ : ByteArray)) ++ a1) bt190.1 bt190.2.1 bt190.2.2).bind fun t193 => (if t193 = (wrap64 (Int.tmod a0 40)) then ((targumlaw2_whole.f ((x11_2 ++ (⟨#[120]⟩ : ByteArray)) ++ a1)).bind fun bt194 => ((brk_Blank.f ((x11_2 ++ (⟨#[120]⟩ : ByteArray)) ++ a1) bt194.1 bt194.2.1 bt194.2.2).bind fun t197 => (if t197 = true then (some false) else ((targumlaw2_whole.f x11_2).bind fun bt198 => ((brk_Blank.f x11_2 bt198.1 bt198.2.1 bt198.2.2).bind fun t201 => (if t201 = true then (if x11_2.size + x15_16.size ≤ 9223372036854775807 then ((targumlaw2_whole.f (x11_2 ++ x15_16)).bind fun bt202 => ((brk_Blank.f (x11_2 ++ x15_16) bt202.1 bt202.2.1 bt202.2.2).bind fun t205 => (if t205 = true then ((targumlaw2_whole.f ((x13_14 ++ x15_16) ++ a1)).bind fun bt206 => ((brk_Blank.f ((x13_14 ++ x15_16) ++ a1) bt206.1 bt206.2.1 bt206.2.2).bind fun t209 => (some (!t209)))) else (some false)))) else (none)) else (some false))))))) else (some false)))) else (some false)))) else (none)) else (some false)))) else (none)) else (none)) else (some false))) = some r := H
                                    have A26 := Aside0.mk A260
                                    clear A260
                                    replace H := Option.bind_eq_some_iff.mp H
                                    obtain ⟨t181, A270, H⟩ := H
                                    replace H : (if t181 = x14_14 then (if x13_14.size + 1 ≤ 9223372036854775807 then (if (x13_14 ++ (⟨#[120]⟩ : ByteArray)).size + a1.size ≤ 9223372036854775807 then ((targumlaw2_whole.f ((x13_14 ++ (⟨#[120]⟩ : ByteArray)) ++ a1)).bind fun bt182 => ((brk_Marker.f kj16 ((x13_14 ++ (⟨#[120]⟩ : ByteArray)) ++ a1) bt182.1 bt182.2.1 bt182.2.2).bind fun t185 => (if t185 = 0 then (if 1 + ((x13_14 ++ x15_16) ++ a1).size ≤ 9223372036854775807 then ((targumlaw2_whole.f ((⟨#[32]⟩ : ByteArray) ++ ((x13_14 ++ x15_16) ++ a1))).bind fun bt186 => ((brk_Marker.f kj16 ((⟨#[32]⟩ : ByteArray) ++ ((x13_14 ++ x15_16) ++ a1)) bt186.1 bt186.2.1 bt186.2.2).bind fun t189 => (if t189 = 0 then ((targumlaw2_whole.f ((x11_2 ++ (⟨#[120]⟩ : ByteArray)) ++ a1)).bind fun bt190 => ((brk_Indent.f ((x11_2 ++ (⟨#[120]⟩ : ByteArray)) ++ a1) bt190.1 bt190.2.1 bt190.2.2).bind fun t193 => (if t193 = (wrap64 (Int.tmod a0 40)) then ((targumlaw2_whole.f ((x11_2 ++ (⟨#[120]⟩ : ByteArray)) ++ a1)).bind fun bt194 => ((brk_Blank.f ((x11_2 ++ (⟨#[120]⟩ : ByteArray)) ++ a1) bt194.1 bt194.2.1 bt194.2.2).bind fun t197 => (if t197 = true then (some false) else ((targumlaw2_whole.f x11_2).bind fun bt198 => ((brk_Blank.f x11_2 bt198.1 bt198.2.1 bt198.2.2).bind fun t201 => (if t201 = true then (if x11_2.size + x15_16.size ≤ 9223372036854775807 then ((targumlaw2_whole.f (x11_2 ++ x15_16)).bind fun bt202 => ((brk_Blank.f (x11_2 ++ x15_16) bt202.1 bt202.2.1 bt202.2.2).bind fun t205 => (if t205 = true then ((targumlaw2_whole.f ((x13_14 ++ x15_16) ++ a1)).bind fun bt206 => ((brk_Blank.f ((x13_14 ++ x15_16) ++ a1) bt206.1 bt206.2.1 bt206.2.2).bind fun t209 => (some (!t209)))) else (some false)))) else (none)) else (some false))))))) else (some false)))) else (some false)))) else (none)) else (some false)))) else (none)) else (none)) else (some false)) = some r := H
                                    have A27 := Aside0.mk A270
                                    clear A270
                                    by_cases c28 : t181 = x14_14
                                    · rw [if_pos c28] at H
                                      have c28b0 : (t181 == x14_14) = true := beq_iff_eq.mpr c28
                                      have c28b1 : (t181 != x14_14) = false := bne_eq_false_iff_eq.mpr c28
                                      clear c28
                                      by_cases c29 : x13_14.size + 1 ≤ 9223372036854775807
                                      · rw [if_pos c29] at H
                                        have c29b0 := eq_true c29
                                        have c29b1 : decide (x13_14.size + 1 ≤ 9223372036854775807) = true := decide_eq_true c29
                                        try have c29b2 : (9223372036854775807 < x13_14.size + 1) = False := eq_false (Nat.not_lt.2 c29)
                                        by_cases c30 : (x13_14 ++ (⟨#[120]⟩ : ByteArray)).size + a1.size ≤ 9223372036854775807
                                        · rw [if_pos c30] at H
                                          have c30b0 := eq_true c30
                                          have c30b1 : decide ((x13_14 ++ (⟨#[120]⟩ : ByteArray)).size + a1.size ≤ 9223372036854775807) = true := decide_eq_true c30
                                          try have c30b2 : (9223372036854775807 < (x13_14 ++ (⟨#[120]⟩ : ByteArray)).size + a1.size) = False := eq_false (Nat.not_lt.2 c30)
                                          try have c30b3 : (9223372036854775807 < x13_14.size + 1 + a1.size) = False := eq_false (Nat.not_lt.2 (by have z_ := c30; simp only [ByteArray.size_append] at z_; exact z_))
                                          replace H := Option.bind_eq_some_iff.mp H
                                          obtain ⟨⟨t182, t183, t184⟩, A310, H⟩ := H
                                          replace H : ((brk_Marker.f kj16 ((x13_14 ++ (⟨#[120]⟩ : ByteArray)) ++ a1) t182 t183 t184).bind fun t185 => (if t185 = 0 then (if 1 + ((x13_14 ++ x15_16) ++ a1).size ≤ 9223372036854775807 then ((targumlaw2_whole.f ((⟨#[32]⟩ : ByteArray) ++ ((x13_14 ++ x15_16) ++ a1))).bind fun bt186 => ((brk_Marker.f kj16 ((⟨#[32]⟩ : ByteArray) ++ ((x13_14 ++ x15_16) ++ a1)) bt186.1 bt186.2.1 bt186.2.2).bind fun t189 => (if t189 = 0 then ((targumlaw2_whole.f ((x11_2 ++ (⟨#[120]⟩ : ByteArray)) ++ a1)).bind fun bt190 => ((brk_Indent.f ((x11_2 ++ (⟨#[120]⟩ : ByteArray)) ++ a1) bt190.1 bt190.2.1 bt190.2.2).bind fun t193 => (if t193 = (wrap64 (Int.tmod a0 40)) then ((targumlaw2_whole.f ((x11_2 ++ (⟨#[120]⟩ : ByteArray)) ++ a1)).bind fun bt194 => ((brk_Blank.f ((x11_2 ++ (⟨#[120]⟩ : ByteArray)) ++ a1) bt194.1 bt194.2.1 bt194.2.2).bind fun t197 => (if t197 = true then (some false) else ((targumlaw2_whole.f x11_2).bind fun bt198 => ((brk_Blank.f x11_2 bt198.1 bt198.2.1 bt198.2.2).bind fun t201 => (if t201 = true then (if x11_2.size + x15_16.size ≤ 9223372036854775807 then ((targumlaw2_whole.f (x11_2 ++ x15_16)).bind fun bt202 => ((brk_Blank.f (x11_2 ++ x15_16) bt202.1 bt202.2.1 bt202.2.2).bind fun t205 => (if t205 = true then ((targumlaw2_whole.f ((x13_14 ++ x15_16) ++ a1)).bind fun bt206 => ((brk_Blank.f ((x13_14 ++ x15_16) ++ a1) bt206.1 bt206.2.1 bt206.2.2).bind fun t209 => (some (!t209)))) else (some false)))) else (none)) else (some false))))))) else (some false)))) else (some false)))) else (none)) else (some false))) = some r := H
                                          have A31 := Aside0.mk A310
                                          clear A310
                                          replace H := Option.bind_eq_some_iff.mp H
                                          obtain ⟨t185, A320, H⟩ := H
                                          replace H : (if t185 = 0 then (if 1 + ((x13_14 ++ x15_16) ++ a1).size ≤ 9223372036854775807 then ((targumlaw2_whole.f ((⟨#[32]⟩ : ByteArray) ++ ((x13_14 ++ x15_16) ++ a1))).bind fun bt186 => ((brk_Marker.f kj16 ((⟨#[32]⟩ : ByteArray) ++ ((x13_14 ++ x15_16) ++ a1)) bt186.1 bt186.2.1 bt186.2.2).bind fun t189 => (if t189 = 0 then ((targumlaw2_whole.f ((x11_2 ++ (⟨#[120]⟩ : ByteArray)) ++ a1)).bind fun bt190 => ((brk_Indent.f ((x11_2 ++ (⟨#[120]⟩ : ByteArray)) ++ a1) bt190.1 bt190.2.1 bt190.2.2).bind fun t193 => (if t193 = (wrap64 (Int.tmod a0 40)) then ((targumlaw2_whole.f ((x11_2 ++ (⟨#[120]⟩ : ByteArray)) ++ a1)).bind fun bt194 => ((brk_Blank.f ((x11_2 ++ (⟨#[120]⟩ : ByteArray)) ++ a1) bt194.1 bt194.2.1 bt194.2.2).bind fun t197 => (if t197 = true then (some false) else ((targumlaw2_whole.f x11_2).bind fun bt198 => ((brk_Blank.f x11_2 bt198.1 bt198.2.1 bt198.2.2).bind fun t201 => (if t201 = true then (if x11_2.size + x15_16.size ≤ 9223372036854775807 then ((targumlaw2_whole.f (x11_2 ++ x15_16)).bind fun bt202 => ((brk_Blank.f (x11_2 ++ x15_16) bt202.1 bt202.2.1 bt202.2.2).bind fun t205 => (if t205 = true then ((targumlaw2_whole.f ((x13_14 ++ x15_16) ++ a1)).bind fun bt206 => ((brk_Blank.f ((x13_14 ++ x15_16) ++ a1) bt206.1 bt206.2.1 bt206.2.2).bind fun t209 => (some (!t209)))) else (some false)))) else (none)) else (some false))))))) else (some false)))) else (some false)))) else (none)) else (some false)) = some r := H
                                          have A32 := Aside0.mk A320
                                          clear A320
                                          by_cases c33 : t185 = 0
                                          · rw [if_pos c33] at H
                                            have c33b0 : (t185 == 0) = true := beq_iff_eq.mpr c33
                                            have c33b1 : (t185 != 0) = false := bne_eq_false_iff_eq.mpr c33
                                            clear c33
                                            by_cases c34 : 1 + ((x13_14 ++ x15_16) ++ a1).size ≤ 9223372036854775807
                                            · rw [if_pos c34] at H
                                              have c34b0 := eq_true c34
                                              have c34b1 : decide (1 + ((x13_14 ++ x15_16) ++ a1).size ≤ 9223372036854775807) = true := decide_eq_true c34
                                              try have c34b2 : (9223372036854775807 < 1 + ((x13_14 ++ x15_16) ++ a1).size) = False := eq_false (Nat.not_lt.2 c34)
                                              try have c34b3 : (9223372036854775807 < 1 + (x13_14.size + x15_16.size + a1.size)) = False := eq_false (Nat.not_lt.2 (by have z_ := c34; simp only [ByteArray.size_append] at z_; exact z_))
                                              replace H := Option.bind_eq_some_iff.mp H
                                              obtain ⟨⟨t186, t187, t188⟩, A350, H⟩ := H
                                              replace H : ((brk_Marker.f kj16 ((⟨#[32]⟩ : ByteArray) ++ ((x13_14 ++ x15_16) ++ a1)) t186 t187 t188).bind fun t189 => (if t189 = 0 then ((targumlaw2_whole.f ((x11_2 ++ (⟨#[120]⟩ : ByteArray)) ++ a1)).bind fun bt190 => ((brk_Indent.f ((x11_2 ++ (⟨#[120]⟩ : ByteArray)) ++ a1) bt190.1 bt190.2.1 bt190.2.2).bind fun t193 => (if t193 = (wrap64 (Int.tmod a0 40)) then ((targumlaw2_whole.f ((x11_2 ++ (⟨#[120]⟩ : ByteArray)) ++ a1)).bind fun bt194 => ((brk_Blank.f ((x11_2 ++ (⟨#[120]⟩ : ByteArray)) ++ a1) bt194.1 bt194.2.1 bt194.2.2).bind fun t197 => (if t197 = true then (some false) else ((targumlaw2_whole.f x11_2).bind fun bt198 => ((brk_Blank.f x11_2 bt198.1 bt198.2.1 bt198.2.2).bind fun t201 => (if t201 = true then (if x11_2.size + x15_16.size ≤ 9223372036854775807 then ((targumlaw2_whole.f (x11_2 ++ x15_16)).bind fun bt202 => ((brk_Blank.f (x11_2 ++ x15_16) bt202.1 bt202.2.1 bt202.2.2).bind fun t205 => (if t205 = true then ((targumlaw2_whole.f ((x13_14 ++ x15_16) ++ a1)).bind fun bt206 => ((brk_Blank.f ((x13_14 ++ x15_16) ++ a1) bt206.1 bt206.2.1 bt206.2.2).bind fun t209 => (some (!t209)))) else (some false)))) else (none)) else (some false))))))) else (some false)))) else (some false))) = some r := H
                                              have A35 := Aside0.mk A350
                                              clear A350
                                              replace H := Option.bind_eq_some_iff.mp H
                                              obtain ⟨t189, A360, H⟩ := H
                                              replace H : (if t189 = 0 then ((targumlaw2_whole.f ((x11_2 ++ (⟨#[120]⟩ : ByteArray)) ++ a1)).bind fun bt190 => ((brk_Indent.f ((x11_2 ++ (⟨#[120]⟩ : ByteArray)) ++ a1) bt190.1 bt190.2.1 bt190.2.2).bind fun t193 => (if t193 = (wrap64 (Int.tmod a0 40)) then ((targumlaw2_whole.f ((x11_2 ++ (⟨#[120]⟩ : ByteArray)) ++ a1)).bind fun bt194 => ((brk_Blank.f ((x11_2 ++ (⟨#[120]⟩ : ByteArray)) ++ a1) bt194.1 bt194.2.1 bt194.2.2).bind fun t197 => (if t197 = true then (some false) else ((targumlaw2_whole.f x11_2).bind fun bt198 => ((brk_Blank.f x11_2 bt198.1 bt198.2.1 bt198.2.2).bind fun t201 => (if t201 = true then (if x11_2.size + x15_16.size ≤ 9223372036854775807 then ((targumlaw2_whole.f (x11_2 ++ x15_16)).bind fun bt202 => ((brk_Blank.f (x11_2 ++ x15_16) bt202.1 bt202.2.1 bt202.2.2).bind fun t205 => (if t205 = true then ((targumlaw2_whole.f ((x13_14 ++ x15_16) ++ a1)).bind fun bt206 => ((brk_Blank.f ((x13_14 ++ x15_16) ++ a1) bt206.1 bt206.2.1 bt206.2.2).bind fun t209 => (some (!t209)))) else (some false)))) else (none)) else (some false))))))) else (some false)))) else (some false)) = some r := H
                                              have A36 := Aside0.mk A360
                                              clear A360
                                              by_cases c37 : t189 = 0
                                              · rw [if_pos c37] at H
                                                have c37b0 : (t189 == 0) = true := beq_iff_eq.mpr c37
                                                have c37b1 : (t189 != 0) = false := bne_eq_false_iff_eq.mpr c37
                                                clear c37
                                                replace H := Option.bind_eq_some_iff.mp H
                                                obtain ⟨⟨t190, t191, t192⟩, A380, H⟩ := H
                                                replace H : ((brk_Indent.f ((x11_2 ++ (⟨#[120]⟩ : ByteArray)) ++ a1) t190 t191 t192).bind fun t193 => (if t193 = (wrap64 (Int.tmod a0 40)) then ((targumlaw2_whole.f ((x11_2 ++ (⟨#[120]⟩ : ByteArray)) ++ a1)).bind fun bt194 => ((brk_Blank.f ((x11_2 ++ (⟨#[120]⟩ : ByteArray)) ++ a1) bt194.1 bt194.2.1 bt194.2.2).bind fun t197 => (if t197 = true then (some false) else ((targumlaw2_whole.f x11_2).bind fun bt198 => ((brk_Blank.f x11_2 bt198.1 bt198.2.1 bt198.2.2).bind fun t201 => (if t201 = true then (if x11_2.size + x15_16.size ≤ 9223372036854775807 then ((targumlaw2_whole.f (x11_2 ++ x15_16)).bind fun bt202 => ((brk_Blank.f (x11_2 ++ x15_16) bt202.1 bt202.2.1 bt202.2.2).bind fun t205 => (if t205 = true then ((targumlaw2_whole.f ((x13_14 ++ x15_16) ++ a1)).bind fun bt206 => ((brk_Blank.f ((x13_14 ++ x15_16) ++ a1) bt206.1 bt206.2.1 bt206.2.2).bind fun t209 => (some (!t209)))) else (some false)))) else (none)) else (some false))))))) else (some false))) = some r := H
                                                have A38 := Aside0.mk A380
                                                clear A380
                                                replace H := Option.bind_eq_some_iff.mp H
                                                obtain ⟨t193, A390, H⟩ := H
                                                replace H : (if t193 = (wrap64 (Int.tmod a0 40)) then ((targumlaw2_whole.f ((x11_2 ++ (⟨#[120]⟩ : ByteArray)) ++ a1)).bind fun bt194 => ((brk_Blank.f ((x11_2 ++ (⟨#[120]⟩ : ByteArray)) ++ a1) bt194.1 bt194.2.1 bt194.2.2).bind fun t197 => (if t197 = true then (some false) else ((targumlaw2_whole.f x11_2).bind fun bt198 => ((brk_Blank.f x11_2 bt198.1 bt198.2.1 bt198.2.2).bind fun t201 => (if t201 = true then (if x11_2.size + x15_16.size ≤ 9223372036854775807 then ((targumlaw2_whole.f (x11_2 ++ x15_16)).bind fun bt202 => ((brk_Blank.f (x11_2 ++ x15_16) bt202.1 bt202.2.1 bt202.2.2).bind fun t205 => (if t205 = true then ((targumlaw2_whole.f ((x13_14 ++ x15_16) ++ a1)).bind fun bt206 => ((brk_Blank.f ((x13_14 ++ x15_16) ++ a1) bt206.1 bt206.2.1 bt206.2.2).bind fun t209 => (some (!t209)))) else (some false)))) else (none)) else (some false))))))) else (some false)) = some r := H
                                                have A39 := Aside0.mk A390
                                                clear A390
                                                by_cases c40 : t193 = (wrap64 (Int.tmod a0 40))
                                                · rw [if_pos c40] at H
                                                  have c40b0 : (t193 == (wrap64 (Int.tmod a0 40))) = true := beq_iff_eq.mpr c40
                                                  have c40b1 : (t193 != (wrap64 (Int.tmod a0 40))) = false := bne_eq_false_iff_eq.mpr c40
                                                  clear c40
                                                  replace H := Option.bind_eq_some_iff.mp H
                                                  obtain ⟨⟨t194, t195, t196⟩, A410, H⟩ := H
                                                  replace H : ((brk_Blank.f ((x11_2 ++ (⟨#[120]⟩ : ByteArray)) ++ a1) t194 t195 t196).bind fun t197 => (if t197 = true then (some false) else ((targumlaw2_whole.f x11_2).bind fun bt198 => ((brk_Blank.f x11_2 bt198.1 bt198.2.1 bt198.2.2).bind fun t201 => (if t201 = true then (if x11_2.size + x15_16.size ≤ 9223372036854775807 then ((targumlaw2_whole.f (x11_2 ++ x15_16)).bind fun bt202 => ((brk_Blank.f (x11_2 ++ x15_16) bt202.1 bt202.2.1 bt202.2.2).bind fun t205 => (if t205 = true then ((targumlaw2_whole.f ((x13_14 ++ x15_16) ++ a1)).bind fun bt206 => ((brk_Blank.f ((x13_14 ++ x15_16) ++ a1) bt206.1 bt206.2.1 bt206.2.2).bind fun t209 => (some (!t209)))) else (some false)))) else (none)) else (some false)))))) = some r := H
                                                  have A41 := Aside0.mk A410
                                                  clear A410
                                                  replace H := Option.bind_eq_some_iff.mp H
                                                  obtain ⟨t197, A420, H⟩ := H
                                                  replace H : (if t197 = true then (some false) else ((targumlaw2_whole.f x11_2).bind fun bt198 => ((brk_Blank.f x11_2 bt198.1 bt198.2.1 bt198.2.2).bind fun t201 => (if t201 = true then (if x11_2.size + x15_16.size ≤ 9223372036854775807 then ((targumlaw2_whole.f (x11_2 ++ x15_16)).bind fun bt202 => ((brk_Blank.f (x11_2 ++ x15_16) bt202.1 bt202.2.1 bt202.2.2).bind fun t205 => (if t205 = true then ((targumlaw2_whole.f ((x13_14 ++ x15_16) ++ a1)).bind fun bt206 => ((brk_Blank.f ((x13_14 ++ x15_16) ++ a1) bt206.1 bt206.2.1 bt206.2.2).bind fun t209 => (some (!t209)))) else (some false)))) else (none)) else (some false))))) = some r := H
                                                  have A42 := Aside0.mk A420
                                                  clear A420
                                                  by_cases c43 : t197 = true
                                                  · subst c43
                                                    have H1 : (some false) = some r := by rw [if_pos rfl] at H; exact H
                                                    clear H
                                                    have H := H1
                                                    clear H1
                                                    obtain rfl := Option.some.inj H
                                                    go_wp2_with (first | (go_at_call 27; (try (rename_i hK_; simp only [List.append] at hK_)); (with_reducible refine (targumlaw2_whole.calls ((x13_14 ++ x15_16) ++ a1) t174 t175 t176 _ A23.out).mono ?_); rintro e w44 ⟨rfl, hb⟩; have n0_ := Aside0.mk (below_step (by repeat (first | (with_reducible first | exact HB.out | apply below_alloc | apply pw_below_drewN | apply below_drew1) | exact HB.out)) hb); clear HB; have HB := n0_; clear n0_; (try clear hb); (try clear hb2); (try clear hk); (try clear hi)) | (go_at_call 24; (try (rename_i hK_; simp only [List.append] at hK_)); (with_reducible refine (brk_Marker.calls kj16 ((x13_14 ++ x15_16) ++ a1) t174 t175 t176 t177 _ A24.out).mono ?_); rintro e w45 ⟨rfl, hb⟩; have n0_ := Aside0.mk (below_step (by repeat (first | (with_reducible first | exact HB.out | apply below_alloc | apply pw_below_drewN | apply below_drew1) | exact HB.out)) hb); clear HB; have HB := n0_; clear n0_; (try clear hb); (try clear hb2); (try clear hk); (try clear hi)) | (go_at_call 27; (try (rename_i hK_; simp only [List.append] at hK_)); (with_reducible refine (targumlaw2_whole.calls x13_14 t178 t179 t180 _ A26.out).mono ?_); rintro e w46 ⟨rfl, hb⟩; have n0_ := Aside0.mk (below_step (by repeat (first | (with_reducible first | exact HB.out | apply below_alloc | apply pw_below_drewN | apply below_drew1) | exact HB.out)) hb); clear HB; have HB := n0_; clear n0_; (try clear hb); (try clear hb2); (try clear hk); (try clear hi)) | (go_at_call 24; (try (rename_i hK_; simp only [List.append] at hK_)); (with_reducible refine (brk_Marker.calls kj16 x13_14 t178 t179 t180 t181 _ A27.out).mono ?_); rintro e w47 ⟨rfl, hb⟩; have n0_ := Aside0.mk (below_step (by repeat (first | (with_reducible first | exact HB.out | apply below_alloc | apply pw_below_drewN | apply below_drew1) | exact HB.out)) hb); clear HB; have HB := n0_; clear n0_; (try clear hb); (try clear hb2); (try clear hk); (try clear hi)) | (go_at_call 27; (try (rename_i hK_; simp only [List.append] at hK_)); (with_reducible refine (targumlaw2_whole.calls ((x13_14 ++ (⟨#[120]⟩ : ByteArray)) ++ a1) t182 t183 t184 _ A31.out).mono ?_); rintro e w48 ⟨rfl, hb⟩; have n0_ := Aside0.mk (below_step (by repeat (first | (with_reducible first | exact HB.out | apply below_alloc | apply pw_below_drewN | apply below_drew1) | exact HB.out)) hb); clear HB; have HB := n0_; clear n0_; (try clear hb); (try clear hb2); (try clear hk); (try clear hi)) | (go_at_call 24; (try (rename_i hK_; simp only [List.append] at hK_)); (with_reducible refine (brk_Marker.calls kj16 ((x13_14 ++ (⟨#[120]⟩ : ByteArray)) ++ a1) t182 t183 t184 t185 _ A32.out).mono ?_); rintro e w49 ⟨rfl, hb⟩; have n0_ := Aside0.mk (below_step (by repeat (first | (with_reducible first | exact HB.out | apply below_alloc | apply pw_below_drewN | apply below_drew1) | exact HB.out)) hb); clear HB; have HB := n0_; clear n0_; (try clear hb); (try clear hb2); (try clear hk); (try clear hi)) | (go_at_call 27; (try (rename_i hK_; simp only [List.append] at hK_)); (with_reducible refine (targumlaw2_whole.calls ((⟨#[32]⟩ : ByteArray) ++ ((x13_14 ++ x15_16) ++ a1)) t186 t187 t188 _ A35.out).mono ?_); rintro e w50 ⟨rfl, hb⟩; have n0_ := Aside0.mk (below_step (by repeat (first | (with_reducible first | exact HB.out | apply below_alloc | apply pw_below_drewN | apply below_drew1) | exact HB.out)) hb); clear HB; have HB := n0_; clear n0_; (try clear hb); (try clear hb2); (try clear hk); (try clear hi)) | (go_at_call 24; (try (rename_i hK_; simp only [List.append] at hK_)); (with_reducible refine (brk_Marker.calls kj16 ((⟨#[32]⟩ : ByteArray) ++ ((x13_14 ++ x15_16) ++ a1)) t186 t187 t188 t189 _ A36.out).mono ?_); rintro e w51 ⟨rfl, hb⟩; have n0_ := Aside0.mk (below_step (by repeat (first | (with_reducible first | exact HB.out | apply below_alloc | apply pw_below_drewN | apply below_drew1) | exact HB.out)) hb); clear HB; have HB := n0_; clear n0_; (try clear hb); (try clear hb2); (try clear hk); (try clear hi)) | (go_at_call 27; (try (rename_i hK_; simp only [List.append] at hK_)); (with_reducible refine (targumlaw2_whole.calls ((x11_2 ++ (⟨#[120]⟩ : ByteArray)) ++ a1) t190 t191 t192 _ A38.out).mono ?_); rintro e w52 ⟨rfl, hb⟩; have n0_ := Aside0.mk (below_step (by repeat (first | (with_reducible first | exact HB.out | apply below_alloc | apply pw_below_drewN | apply below_drew1) | exact HB.out)) hb); clear HB; have HB := n0_; clear n0_; (try clear hb); (try clear hb2); (try clear hk); (try clear hi); clear A38) | (go_at_call 20; (try (rename_i hK_; simp only [List.append] at hK_)); (with_reducible refine (brk_Indent.calls ((x11_2 ++ (⟨#[120]⟩ : ByteArray)) ++ a1) t190 t191 t192 t193 _ A39.out).mono ?_); rintro e w53 ⟨rfl, hb⟩; have n0_ := Aside0.mk (below_step (by repeat (first | (with_reducible first | exact HB.out | apply below_alloc | apply pw_below_drewN | apply below_drew1) | exact HB.out)) hb); clear HB; have HB := n0_; clear n0_; (try clear hb); (try clear hb2); (try clear hk); (try clear hi)) | (go_at_call 27; (try (rename_i hK_; simp only [List.append] at hK_)); (with_reducible refine (targumlaw2_whole.calls ((x11_2 ++ (⟨#[120]⟩ : ByteArray)) ++ a1) t194 t195 t196 _ A41.out).mono ?_); rintro e w54 ⟨rfl, hb⟩; have n0_ := Aside0.mk (below_step (by repeat (first | (with_reducible first | exact HB.out | apply below_alloc | apply pw_below_drewN | apply below_drew1) | exact HB.out)) hb); clear HB; have HB := n0_; clear n0_; (try clear hb); (try clear hb2); (try clear hk); (try clear hi); clear A41) | (go_at_call 22; (try (rename_i hK_; simp only [List.append] at hK_)); (with_reducible refine (brk_Blank.calls ((x11_2 ++ (⟨#[120]⟩ : ByteArray)) ++ a1) t194 t195 t196 true _ A42.out).mono ?_); rintro e w55 ⟨rfl, hb⟩; have n0_ := Aside0.mk (below_step (by repeat (first | (with_reducible first | exact HB.out | apply below_alloc | apply pw_below_drewN | apply below_drew1) | exact HB.out)) hb); clear HB; have HB := n0_; clear n0_; (try clear hb); (try clear hb2); (try clear hk); (try clear hi)))
                                                    go_ret
                                                    exact ⟨by first | rfl | (simp [errW_none, errW_some] <;> rfl) | (simp [*, errW_none, errW_some] <;> rfl), by repeat (first | (with_reducible first | exact HB.out | apply below_alloc | apply pw_below_drewN | apply below_drew1) | exact HB.out)⟩
                                                  · replace c43 := Bool.eq_false_iff.mpr c43
                                                    subst c43
                                                    have H1 : ((targumlaw2_whole.f x11_2).bind fun bt198 => ((brk_Blank.f x11_2 bt198.1 bt198.2.1 bt198.2.2).bind fun t201 => (if t201 = true then (if x11_2.size + x15_16.size ≤ 9223372036854775807 then ((targumlaw2_whole.f (x11_2 ++ x15_16)).bind fun bt202 => ((brk_Blank.f (x11_2 ++ x15_16) bt202.1 bt202.2.1 bt202.2.2).bind fun t205 => (if t205 = true then ((targumlaw2_whole.f ((x13_14 ++ x15_16) ++ a1)).bind fun bt206 => ((brk_Blank.f ((x13_14 ++ x15_16) ++ a1) bt206.1 bt206.2.1 bt206.2.2).bind fun t209 => (some (!t209)))) else (some false)))) else (none)) else (some false)))) = some r := by rw [if_neg (show ¬ (false = true) by decide)] at H; exact H
                                                    clear H
                                                    have H := H1
                                                    clear H1
                                                    replace H := Option.bind_eq_some_iff.mp H
                                                    obtain ⟨⟨t198, t199, t200⟩, A560, H⟩ := H
                                                    replace H : ((brk_Blank.f x11_2 t198 t199 t200).bind fun t201 => (if t201 = true then (if x11_2.size + x15_16.size ≤ 9223372036854775807 then ((targumlaw2_whole.f (x11_2 ++ x15_16)).bind fun bt202 => ((brk_Blank.f (x11_2 ++ x15_16) bt202.1 bt202.2.1 bt202.2.2).bind fun t205 => (if t205 = true then ((targumlaw2_whole.f ((x13_14 ++ x15_16) ++ a1)).bind fun bt206 => ((brk_Blank.f ((x13_14 ++ x15_16) ++ a1) bt206.1 bt206.2.1 bt206.2.2).bind fun t209 => (some (!t209)))) else (some false)))) else (none)) else (some false))) = some r := H
                                                    have A56 := Aside0.mk A560
                                                    clear A560
                                                    replace H := Option.bind_eq_some_iff.mp H
                                                    obtain ⟨t201, A570, H⟩ := H
                                                    replace H : (if t201 = true then (if x11_2.size + x15_16.size ≤ 9223372036854775807 then ((targumlaw2_whole.f (x11_2 ++ x15_16)).bind fun bt202 => ((brk_Blank.f (x11_2 ++ x15_16) bt202.1 bt202.2.1 bt202.2.2).bind fun t205 => (if t205 = true then ((targumlaw2_whole.f ((x13_14 ++ x15_16) ++ a1)).bind fun bt206 => ((brk_Blank.f ((x13_14 ++ x15_16) ++ a1) bt206.1 bt206.2.1 bt206.2.2).bind fun t209 => (some (!t209)))) else (some false)))) else (none)) else (some false)) = some r := H
                                                    have A57 := Aside0.mk A570
                                                    clear A570
                                                    by_cases c58 : t201 = true
                                                    · subst c58
                                                      have H1 : (if x11_2.size + x15_16.size ≤ 9223372036854775807 then ((targumlaw2_whole.f (x11_2 ++ x15_16)).bind fun bt202 => ((brk_Blank.f (x11_2 ++ x15_16) bt202.1 bt202.2.1 bt202.2.2).bind fun t205 => (if t205 = true then ((targumlaw2_whole.f ((x13_14 ++ x15_16) ++ a1)).bind fun bt206 => ((brk_Blank.f ((x13_14 ++ x15_16) ++ a1) bt206.1 bt206.2.1 bt206.2.2).bind fun t209 => (some (!t209)))) else (some false)))) else (none)) = some r := by rw [if_pos rfl] at H; exact H
                                                      clear H
                                                      have H := H1
                                                      clear H1
                                                      by_cases c59 : x11_2.size + x15_16.size ≤ 9223372036854775807
                                                      · rw [if_pos c59] at H
                                                        have c59b0 := eq_true c59
                                                        have c59b1 : decide (x11_2.size + x15_16.size ≤ 9223372036854775807) = true := decide_eq_true c59
                                                        try have c59b2 : (9223372036854775807 < x11_2.size + x15_16.size) = False := eq_false (Nat.not_lt.2 c59)
                                                        replace H := Option.bind_eq_some_iff.mp H
                                                        obtain ⟨⟨t202, t203, t204⟩, A600, H⟩ := H
                                                        replace H : ((brk_Blank.f (x11_2 ++ x15_16) t202 t203 t204).bind fun t205 => (if t205 = true then ((targumlaw2_whole.f ((x13_14 ++ x15_16) ++ a1)).bind fun bt206 => ((brk_Blank.f ((x13_14 ++ x15_16) ++ a1) bt206.1 bt206.2.1 bt206.2.2).bind fun t209 => (some (!t209)))) else (some false))) = some r := H
                                                        have A60 := Aside0.mk A600
                                                        clear A600
                                                        replace H := Option.bind_eq_some_iff.mp H
                                                        obtain ⟨t205, A610, H⟩ := H
                                                        replace H : (if t205 = true then ((targumlaw2_whole.f ((x13_14 ++ x15_16) ++ a1)).bind fun bt206 => ((brk_Blank.f ((x13_14 ++ x15_16) ++ a1) bt206.1 bt206.2.1 bt206.2.2).bind fun t209 => (some (!t209)))) else (some false)) = some r := H
                                                        have A61 := Aside0.mk A610
                                                        clear A610
                                                        by_cases c62 : t205 = true
                                                        · subst c62
                                                          have H1 : ((targumlaw2_whole.f ((x13_14 ++ x15_16) ++ a1)).bind fun bt206 => ((brk_Blank.f ((x13_14 ++ x15_16) ++ a1) bt206.1 bt206.2.1 bt206.2.2).bind fun t209 => (some (!t209)))) = some r := by rw [if_pos rfl] at H; exact H
                                                          clear H
                                                          have H := H1
                                                          clear H1
                                                          replace H := Option.bind_eq_some_iff.mp H
                                                          obtain ⟨⟨t206, t207, t208⟩, A630, H⟩ := H
                                                          replace H : ((brk_Blank.f ((x13_14 ++ x15_16) ++ a1) t206 t207 t208).bind fun t209 => (some (!t209))) = some r := H
                                                          have A63 := Aside0.mk A630
                                                          clear A630
                                                          replace H := Option.bind_eq_some_iff.mp H
                                                          obtain ⟨t209, A640, H⟩ := H
                                                          replace H : (some (!t209)) = some r := H
                                                          have A64 := Aside0.mk A640
                                                          clear A640
                                                          obtain rfl := Option.some.inj H
                                                          go_wp2_with (first | (go_at_call 27; (try (rename_i hK_; simp only [List.append] at hK_)); (with_reducible refine (targumlaw2_whole.calls ((x13_14 ++ x15_16) ++ a1) t174 t175 t176 _ A23.out).mono ?_); rintro e w65 ⟨rfl, hb⟩; have n0_ := Aside0.mk (below_step (by repeat (first | (with_reducible first | exact HB.out | apply below_alloc | apply pw_below_drewN | apply below_drew1) | exact HB.out)) hb); clear HB; have HB := n0_; clear n0_; (try clear hb); (try clear hb2); (try clear hk); (try clear hi); clear A23) | (go_at_call 24; (try (rename_i hK_; simp only [List.append] at hK_)); (with_reducible refine (brk_Marker.calls kj16 ((x13_14 ++ x15_16) ++ a1) t174 t175 t176 t177 _ A24.out).mono ?_); rintro e w66 ⟨rfl, hb⟩; have n0_ := Aside0.mk (below_step (by repeat (first | (with_reducible first | exact HB.out | apply below_alloc | apply pw_below_drewN | apply below_drew1) | exact HB.out)) hb); clear HB; have HB := n0_; clear n0_; (try clear hb); (try clear hb2); (try clear hk); (try clear hi)) | (go_at_call 27; (try (rename_i hK_; simp only [List.append] at hK_)); (with_reducible refine (targumlaw2_whole.calls x13_14 t178 t179 t180 _ A26.out).mono ?_); rintro e w67 ⟨rfl, hb⟩; have n0_ := Aside0.mk (below_step (by repeat (first | (with_reducible first | exact HB.out | apply below_alloc | apply pw_below_drewN | apply below_drew1) | exact HB.out)) hb); clear HB; have HB := n0_; clear n0_; (try clear hb); (try clear hb2); (try clear hk); (try clear hi)) | (go_at_call 24; (try (rename_i hK_; simp only [List.append] at hK_)); (with_reducible refine (brk_Marker.calls kj16 x13_14 t178 t179 t180 t181 _ A27.out).mono ?_); rintro e w68 ⟨rfl, hb⟩; have n0_ := Aside0.mk (below_step (by repeat (first | (with_reducible first | exact HB.out | apply below_alloc | apply pw_below_drewN | apply below_drew1) | exact HB.out)) hb); clear HB; have HB := n0_; clear n0_; (try clear hb); (try clear hb2); (try clear hk); (try clear hi)) | (go_at_call 27; (try (rename_i hK_; simp only [List.append] at hK_)); (with_reducible refine (targumlaw2_whole.calls ((x13_14 ++ (⟨#[120]⟩ : ByteArray)) ++ a1) t182 t183 t184 _ A31.out).mono ?_); rintro e w69 ⟨rfl, hb⟩; have n0_ := Aside0.mk (below_step (by repeat (first | (with_reducible first | exact HB.out | apply below_alloc | apply pw_below_drewN | apply below_drew1) | exact HB.out)) hb); clear HB; have HB := n0_; clear n0_; (try clear hb); (try clear hb2); (try clear hk); (try clear hi)) | (go_at_call 24; (try (rename_i hK_; simp only [List.append] at hK_)); (with_reducible refine (brk_Marker.calls kj16 ((x13_14 ++ (⟨#[120]⟩ : ByteArray)) ++ a1) t182 t183 t184 t185 _ A32.out).mono ?_); rintro e w70 ⟨rfl, hb⟩; have n0_ := Aside0.mk (below_step (by repeat (first | (with_reducible first | exact HB.out | apply below_alloc | apply pw_below_drewN | apply below_drew1) | exact HB.out)) hb); clear HB; have HB := n0_; clear n0_; (try clear hb); (try clear hb2); (try clear hk); (try clear hi)) | (go_at_call 27; (try (rename_i hK_; simp only [List.append] at hK_)); (with_reducible refine (targumlaw2_whole.calls ((⟨#[32]⟩ : ByteArray) ++ ((x13_14 ++ x15_16) ++ a1)) t186 t187 t188 _ A35.out).mono ?_); rintro e w71 ⟨rfl, hb⟩; have n0_ := Aside0.mk (below_step (by repeat (first | (with_reducible first | exact HB.out | apply below_alloc | apply pw_below_drewN | apply below_drew1) | exact HB.out)) hb); clear HB; have HB := n0_; clear n0_; (try clear hb); (try clear hb2); (try clear hk); (try clear hi)) | (go_at_call 24; (try (rename_i hK_; simp only [List.append] at hK_)); (with_reducible refine (brk_Marker.calls kj16 ((⟨#[32]⟩ : ByteArray) ++ ((x13_14 ++ x15_16) ++ a1)) t186 t187 t188 t189 _ A36.out).mono ?_); rintro e w72 ⟨rfl, hb⟩; have n0_ := Aside0.mk (below_step (by repeat (first | (with_reducible first | exact HB.out | apply below_alloc | apply pw_below_drewN | apply below_drew1) | exact HB.out)) hb); clear HB; have HB := n0_; clear n0_; (try clear hb); (try clear hb2); (try clear hk); (try clear hi)) | (go_at_call 27; (try (rename_i hK_; simp only [List.append] at hK_)); (with_reducible refine (targumlaw2_whole.calls ((x11_2 ++ (⟨#[120]⟩ : ByteArray)) ++ a1) t190 t191 t192 _ A38.out).mono ?_); rintro e w73 ⟨rfl, hb⟩; have n0_ := Aside0.mk (below_step (by repeat (first | (with_reducible first | exact HB.out | apply below_alloc | apply pw_below_drewN | apply below_drew1) | exact HB.out)) hb); clear HB; have HB := n0_; clear n0_; (try clear hb); (try clear hb2); (try clear hk); (try clear hi); clear A38) | (go_at_call 20; (try (rename_i hK_; simp only [List.append] at hK_)); (with_reducible refine (brk_Indent.calls ((x11_2 ++ (⟨#[120]⟩ : ByteArray)) ++ a1) t190 t191 t192 t193 _ A39.out).mono ?_); rintro e w74 ⟨rfl, hb⟩; have n0_ := Aside0.mk (below_step (by repeat (first | (with_reducible first | exact HB.out | apply below_alloc | apply pw_below_drewN | apply below_drew1) | exact HB.out)) hb); clear HB; have HB := n0_; clear n0_; (try clear hb); (try clear hb2); (try clear hk); (try clear hi)) | (go_at_call 27; (try (rename_i hK_; simp only [List.append] at hK_)); (with_reducible refine (targumlaw2_whole.calls ((x11_2 ++ (⟨#[120]⟩ : ByteArray)) ++ a1) t194 t195 t196 _ A41.out).mono ?_); rintro e w75 ⟨rfl, hb⟩; have n0_ := Aside0.mk (below_step (by repeat (first | (with_reducible first | exact HB.out | apply below_alloc | apply pw_below_drewN | apply below_drew1) | exact HB.out)) hb); clear HB; have HB := n0_; clear n0_; (try clear hb); (try clear hb2); (try clear hk); (try clear hi); clear A41) | (go_at_call 22; (try (rename_i hK_; simp only [List.append] at hK_)); (with_reducible refine (brk_Blank.calls ((x11_2 ++ (⟨#[120]⟩ : ByteArray)) ++ a1) t194 t195 t196 false _ A42.out).mono ?_); rintro e w76 ⟨rfl, hb⟩; have n0_ := Aside0.mk (below_step (by repeat (first | (with_reducible first | exact HB.out | apply below_alloc | apply pw_below_drewN | apply below_drew1) | exact HB.out)) hb); clear HB; have HB := n0_; clear n0_; (try clear hb); (try clear hb2); (try clear hk); (try clear hi)) | (go_at_call 27; (try (rename_i hK_; simp only [List.append] at hK_)); (with_reducible refine (targumlaw2_whole.calls x11_2 t198 t199 t200 _ A56.out).mono ?_); rintro e w77 ⟨rfl, hb⟩; have n0_ := Aside0.mk (below_step (by repeat (first | (with_reducible first | exact HB.out | apply below_alloc | apply pw_below_drewN | apply below_drew1) | exact HB.out)) hb); clear HB; have HB := n0_; clear n0_; (try clear hb); (try clear hb2); (try clear hk); (try clear hi)) | (go_at_call 22; (try (rename_i hK_; simp only [List.append] at hK_)); (with_reducible refine (brk_Blank.calls x11_2 t198 t199 t200 true _ A57.out).mono ?_); rintro e w78 ⟨rfl, hb⟩; have n0_ := Aside0.mk (below_step (by repeat (first | (with_reducible first | exact HB.out | apply below_alloc | apply pw_below_drewN | apply below_drew1) | exact HB.out)) hb); clear HB; have HB := n0_; clear n0_; (try clear hb); (try clear hb2); (try clear hk); (try clear hi)) | (go_at_call 27; (try (rename_i hK_; simp only [List.append] at hK_)); (with_reducible refine (targumlaw2_whole.calls (x11_2 ++ x15_16) t202 t203 t204 _ A60.out).mono ?_); rintro e w79 ⟨rfl, hb⟩; have n0_ := Aside0.mk (below_step (by repeat (first | (with_reducible first | exact HB.out | apply below_alloc | apply pw_below_drewN | apply below_drew1) | exact HB.out)) hb); clear HB; have HB := n0_; clear n0_; (try clear hb); (try clear hb2); (try clear hk); (try clear hi)) | (go_at_call 22; (try (rename_i hK_; simp only [List.append] at hK_)); (with_reducible refine (brk_Blank.calls (x11_2 ++ x15_16) t202 t203 t204 true _ A61.out).mono ?_); rintro e w80 ⟨rfl, hb⟩; have n0_ := Aside0.mk (below_step (by repeat (first | (with_reducible first | exact HB.out | apply below_alloc | apply pw_below_drewN | apply below_drew1) | exact HB.out)) hb); clear HB; have HB := n0_; clear n0_; (try clear hb); (try clear hb2); (try clear hk); (try clear hi)) | (go_at_call 27; (try (rename_i hK_; simp only [List.append] at hK_)); (with_reducible refine (targumlaw2_whole.calls ((x13_14 ++ x15_16) ++ a1) t206 t207 t208 _ A63.out).mono ?_); rintro e w81 ⟨rfl, hb⟩; have n0_ := Aside0.mk (below_step (by repeat (first | (with_reducible first | exact HB.out | apply below_alloc | apply pw_below_drewN | apply below_drew1) | exact HB.out)) hb); clear HB; have HB := n0_; clear n0_; (try clear hb); (try clear hb2); (try clear hk); (try clear hi); clear A63) | (go_at_call 22; (try (rename_i hK_; simp only [List.append] at hK_)); (with_reducible refine (brk_Blank.calls ((x13_14 ++ x15_16) ++ a1) t206 t207 t208 t209 _ A64.out).mono ?_); rintro e w82 ⟨rfl, hb⟩; have n0_ := Aside0.mk (below_step (by repeat (first | (with_reducible first | exact HB.out | apply below_alloc | apply pw_below_drewN | apply below_drew1) | exact HB.out)) hb); clear HB; have HB := n0_; clear n0_; (try clear hb); (try clear hb2); (try clear hk); (try clear hi)))
                                                          go_ret
                                                          exact ⟨by first | rfl | (simp [errW_none, errW_some] <;> rfl) | (simp [*, errW_none, errW_some] <;> rfl), by repeat (first | (with_reducible first | exact HB.out | apply below_alloc | apply pw_below_drewN | apply below_drew1) | exact HB.out)⟩
                                                        · replace c62 := Bool.eq_false_iff.mpr c62
                                                          subst c62
                                                          have H1 : (some false) = some r := by rw [if_neg (show ¬ (false = true) by decide)] at H; exact H
                                                          clear H
                                                          have H := H1
                                                          clear H1
                                                          obtain rfl := Option.some.inj H
                                                          go_wp2_with (first | (go_at_call 27; (try (rename_i hK_; simp only [List.append] at hK_)); (with_reducible refine (targumlaw2_whole.calls ((x13_14 ++ x15_16) ++ a1) t174 t175 t176 _ A23.out).mono ?_); rintro e w83 ⟨rfl, hb⟩; have n0_ := Aside0.mk (below_step (by repeat (first | (with_reducible first | exact HB.out | apply below_alloc | apply pw_below_drewN | apply below_drew1) | exact HB.out)) hb); clear HB; have HB := n0_; clear n0_; (try clear hb); (try clear hb2); (try clear hk); (try clear hi)) | (go_at_call 24; (try (rename_i hK_; simp only [List.append] at hK_)); (with_reducible refine (brk_Marker.calls kj16 ((x13_14 ++ x15_16) ++ a1) t174 t175 t176 t177 _ A24.out).mono ?_); rintro e w84 ⟨rfl, hb⟩; have n0_ := Aside0.mk (below_step (by repeat (first | (with_reducible first | exact HB.out | apply below_alloc | apply pw_below_drewN | apply below_drew1) | exact HB.out)) hb); clear HB; have HB := n0_; clear n0_; (try clear hb); (try clear hb2); (try clear hk); (try clear hi)) | (go_at_call 27; (try (rename_i hK_; simp only [List.append] at hK_)); (with_reducible refine (targumlaw2_whole.calls x13_14 t178 t179 t180 _ A26.out).mono ?_); rintro e w85 ⟨rfl, hb⟩; have n0_ := Aside0.mk (below_step (by repeat (first | (with_reducible first | exact HB.out | apply below_alloc | apply pw_below_drewN | apply below_drew1) | exact HB.out)) hb); clear HB; have HB := n0_; clear n0_; (try clear hb); (try clear hb2); (try clear hk); (try clear hi)) | (go_at_call 24; (try (rename_i hK_; simp only [List.append] at hK_)); (with_reducible refine (brk_Marker.calls kj16 x13_14 t178 t179 t180 t181 _ A27.out).mono ?_); rintro e w86 ⟨rfl, hb⟩; have n0_ := Aside0.mk (below_step (by repeat (first | (with_reducible first | exact HB.out | apply below_alloc | apply pw_below_drewN | apply below_drew1) | exact HB.out)) hb); clear HB; have HB := n0_; clear n0_; (try clear hb); (try clear hb2); (try clear hk); (try clear hi)) | (go_at_call 27; (try (rename_i hK_; simp only [List.append] at hK_)); (with_reducible refine (targumlaw2_whole.calls ((x13_14 ++ (⟨#[120]⟩ : ByteArray)) ++ a1) t182 t183 t184 _ A31.out).mono ?_); rintro e w87 ⟨rfl, hb⟩; have n0_ := Aside0.mk (below_step (by repeat (first | (with_reducible first | exact HB.out | apply below_alloc | apply pw_below_drewN | apply below_drew1) | exact HB.out)) hb); clear HB; have HB := n0_; clear n0_; (try clear hb); (try clear hb2); (try clear hk); (try clear hi)) | (go_at_call 24; (try (rename_i hK_; simp only [List.append] at hK_)); (with_reducible refine (brk_Marker.calls kj16 ((x13_14 ++ (⟨#[120]⟩ : ByteArray)) ++ a1) t182 t183 t184 t185 _ A32.out).mono ?_); rintro e w88 ⟨rfl, hb⟩; have n0_ := Aside0.mk (below_step (by repeat (first | (with_reducible first | exact HB.out | apply below_alloc | apply pw_below_drewN | apply below_drew1) | exact HB.out)) hb); clear HB; have HB := n0_; clear n0_; (try clear hb); (try clear hb2); (try clear hk); (try clear hi)) | (go_at_call 27; (try (rename_i hK_; simp only [List.append] at hK_)); (with_reducible refine (targumlaw2_whole.calls ((⟨#[32]⟩ : ByteArray) ++ ((x13_14 ++ x15_16) ++ a1)) t186 t187 t188 _ A35.out).mono ?_); rintro e w89 ⟨rfl, hb⟩; have n0_ := Aside0.mk (below_step (by repeat (first | (with_reducible first | exact HB.out | apply below_alloc | apply pw_below_drewN | apply below_drew1) | exact HB.out)) hb); clear HB; have HB := n0_; clear n0_; (try clear hb); (try clear hb2); (try clear hk); (try clear hi)) | (go_at_call 24; (try (rename_i hK_; simp only [List.append] at hK_)); (with_reducible refine (brk_Marker.calls kj16 ((⟨#[32]⟩ : ByteArray) ++ ((x13_14 ++ x15_16) ++ a1)) t186 t187 t188 t189 _ A36.out).mono ?_); rintro e w90 ⟨rfl, hb⟩; have n0_ := Aside0.mk (below_step (by repeat (first | (with_reducible first | exact HB.out | apply below_alloc | apply pw_below_drewN | apply below_drew1) | exact HB.out)) hb); clear HB; have HB := n0_; clear n0_; (try clear hb); (try clear hb2); (try clear hk); (try clear hi)) | (go_at_call 27; (try (rename_i hK_; simp only [List.append] at hK_)); (with_reducible refine (targumlaw2_whole.calls ((x11_2 ++ (⟨#[120]⟩ : ByteArray)) ++ a1) t190 t191 t192 _ A38.out).mono ?_); rintro e w91 ⟨rfl, hb⟩; have n0_ := Aside0.mk (below_step (by repeat (first | (with_reducible first | exact HB.out | apply below_alloc | apply pw_below_drewN | apply below_drew1) | exact HB.out)) hb); clear HB; have HB := n0_; clear n0_; (try clear hb); (try clear hb2); (try clear hk); (try clear hi); clear A38) | (go_at_call 20; (try (rename_i hK_; simp only [List.append] at hK_)); (with_reducible refine (brk_Indent.calls ((x11_2 ++ (⟨#[120]⟩ : ByteArray)) ++ a1) t190 t191 t192 t193 _ A39.out).mono ?_); rintro e w92 ⟨rfl, hb⟩; have n0_ := Aside0.mk (below_step (by repeat (first | (with_reducible first | exact HB.out | apply below_alloc | apply pw_below_drewN | apply below_drew1) | exact HB.out)) hb); clear HB; have HB := n0_; clear n0_; (try clear hb); (try clear hb2); (try clear hk); (try clear hi)) | (go_at_call 27; (try (rename_i hK_; simp only [List.append] at hK_)); (with_reducible refine (targumlaw2_whole.calls ((x11_2 ++ (⟨#[120]⟩ : ByteArray)) ++ a1) t194 t195 t196 _ A41.out).mono ?_); rintro e w93 ⟨rfl, hb⟩; have n0_ := Aside0.mk (below_step (by repeat (first | (with_reducible first | exact HB.out | apply below_alloc | apply pw_below_drewN | apply below_drew1) | exact HB.out)) hb); clear HB; have HB := n0_; clear n0_; (try clear hb); (try clear hb2); (try clear hk); (try clear hi); clear A41) | (go_at_call 22; (try (rename_i hK_; simp only [List.append] at hK_)); (with_reducible refine (brk_Blank.calls ((x11_2 ++ (⟨#[120]⟩ : ByteArray)) ++ a1) t194 t195 t196 false _ A42.out).mono ?_); rintro e w94 ⟨rfl, hb⟩; have n0_ := Aside0.mk (below_step (by repeat (first | (with_reducible first | exact HB.out | apply below_alloc | apply pw_below_drewN | apply below_drew1) | exact HB.out)) hb); clear HB; have HB := n0_; clear n0_; (try clear hb); (try clear hb2); (try clear hk); (try clear hi)) | (go_at_call 27; (try (rename_i hK_; simp only [List.append] at hK_)); (with_reducible refine (targumlaw2_whole.calls x11_2 t198 t199 t200 _ A56.out).mono ?_); rintro e w95 ⟨rfl, hb⟩; have n0_ := Aside0.mk (below_step (by repeat (first | (with_reducible first | exact HB.out | apply below_alloc | apply pw_below_drewN | apply below_drew1) | exact HB.out)) hb); clear HB; have HB := n0_; clear n0_; (try clear hb); (try clear hb2); (try clear hk); (try clear hi)) | (go_at_call 22; (try (rename_i hK_; simp only [List.append] at hK_)); (with_reducible refine (brk_Blank.calls x11_2 t198 t199 t200 true _ A57.out).mono ?_); rintro e w96 ⟨rfl, hb⟩; have n0_ := Aside0.mk (below_step (by repeat (first | (with_reducible first | exact HB.out | apply below_alloc | apply pw_below_drewN | apply below_drew1) | exact HB.out)) hb); clear HB; have HB := n0_; clear n0_; (try clear hb); (try clear hb2); (try clear hk); (try clear hi)) | (go_at_call 27; (try (rename_i hK_; simp only [List.append] at hK_)); (with_reducible refine (targumlaw2_whole.calls (x11_2 ++ x15_16) t202 t203 t204 _ A60.out).mono ?_); rintro e w97 ⟨rfl, hb⟩; have n0_ := Aside0.mk (below_step (by repeat (first | (with_reducible first | exact HB.out | apply below_alloc | apply pw_below_drewN | apply below_drew1) | exact HB.out)) hb); clear HB; have HB := n0_; clear n0_; (try clear hb); (try clear hb2); (try clear hk); (try clear hi)) | (go_at_call 22; (try (rename_i hK_; simp only [List.append] at hK_)); (with_reducible refine (brk_Blank.calls (x11_2 ++ x15_16) t202 t203 t204 false _ A61.out).mono ?_); rintro e w98 ⟨rfl, hb⟩; have n0_ := Aside0.mk (below_step (by repeat (first | (with_reducible first | exact HB.out | apply below_alloc | apply pw_below_drewN | apply below_drew1) | exact HB.out)) hb); clear HB; have HB := n0_; clear n0_; (try clear hb); (try clear hb2); (try clear hk); (try clear hi)))
                                                          go_ret
                                                          exact ⟨by first | rfl | (simp [errW_none, errW_some] <;> rfl) | (simp [*, errW_none, errW_some] <;> rfl), by repeat (first | (with_reducible first | exact HB.out | apply below_alloc | apply pw_below_drewN | apply below_drew1) | exact HB.out)⟩
                                                      · rw [if_neg c59] at H
                                                        exact absurd H (by simp)
                                                    · replace c58 := Bool.eq_false_iff.mpr c58
                                                      subst c58
                                                      have H1 : (some false) = some r := by rw [if_neg (show ¬ (false = true) by decide)] at H; exact H
                                                      clear H
                                                      have H := H1
                                                      clear H1
                                                      obtain rfl := Option.some.inj H
                                                      go_wp2_with (first | (go_at_call 27; (try (rename_i hK_; simp only [List.append] at hK_)); (with_reducible refine (targumlaw2_whole.calls ((x13_14 ++ x15_16) ++ a1) t174 t175 t176 _ A23.out).mono ?_); rintro e w99 ⟨rfl, hb⟩; have n0_ := Aside0.mk (below_step (by repeat (first | (with_reducible first | exact HB.out | apply below_alloc | apply pw_below_drewN | apply below_drew1) | exact HB.out)) hb); clear HB; have HB := n0_; clear n0_; (try clear hb); (try clear hb2); (try clear hk); (try clear hi)) | (go_at_call 24; (try (rename_i hK_; simp only [List.append] at hK_)); (with_reducible refine (brk_Marker.calls kj16 ((x13_14 ++ x15_16) ++ a1) t174 t175 t176 t177 _ A24.out).mono ?_); rintro e w100 ⟨rfl, hb⟩; have n0_ := Aside0.mk (below_step (by repeat (first | (with_reducible first | exact HB.out | apply below_alloc | apply pw_below_drewN | apply below_drew1) | exact HB.out)) hb); clear HB; have HB := n0_; clear n0_; (try clear hb); (try clear hb2); (try clear hk); (try clear hi)) | (go_at_call 27; (try (rename_i hK_; simp only [List.append] at hK_)); (with_reducible refine (targumlaw2_whole.calls x13_14 t178 t179 t180 _ A26.out).mono ?_); rintro e w101 ⟨rfl, hb⟩; have n0_ := Aside0.mk (below_step (by repeat (first | (with_reducible first | exact HB.out | apply below_alloc | apply pw_below_drewN | apply below_drew1) | exact HB.out)) hb); clear HB; have HB := n0_; clear n0_; (try clear hb); (try clear hb2); (try clear hk); (try clear hi)) | (go_at_call 24; (try (rename_i hK_; simp only [List.append] at hK_)); (with_reducible refine (brk_Marker.calls kj16 x13_14 t178 t179 t180 t181 _ A27.out).mono ?_); rintro e w102 ⟨rfl, hb⟩; have n0_ := Aside0.mk (below_step (by repeat (first | (with_reducible first | exact HB.out | apply below_alloc | apply pw_below_drewN | apply below_drew1) | exact HB.out)) hb); clear HB; have HB := n0_; clear n0_; (try clear hb); (try clear hb2); (try clear hk); (try clear hi)) | (go_at_call 27; (try (rename_i hK_; simp only [List.append] at hK_)); (with_reducible refine (targumlaw2_whole.calls ((x13_14 ++ (⟨#[120]⟩ : ByteArray)) ++ a1) t182 t183 t184 _ A31.out).mono ?_); rintro e w103 ⟨rfl, hb⟩; have n0_ := Aside0.mk (below_step (by repeat (first | (with_reducible first | exact HB.out | apply below_alloc | apply pw_below_drewN | apply below_drew1) | exact HB.out)) hb); clear HB; have HB := n0_; clear n0_; (try clear hb); (try clear hb2); (try clear hk); (try clear hi)) | (go_at_call 24; (try (rename_i hK_; simp only [List.append] at hK_)); (with_reducible refine (brk_Marker.calls kj16 ((x13_14 ++ (⟨#[120]⟩ : ByteArray)) ++ a1) t182 t183 t184 t185 _ A32.out).mono ?_); rintro e w104 ⟨rfl, hb⟩; have n0_ := Aside0.mk (below_step (by repeat (first | (with_reducible first | exact HB.out | apply below_alloc | apply pw_below_drewN | apply below_drew1) | exact HB.out)) hb); clear HB; have HB := n0_; clear n0_; (try clear hb); (try clear hb2); (try clear hk); (try clear hi)) | (go_at_call 27; (try (rename_i hK_; simp only [List.append] at hK_)); (with_reducible refine (targumlaw2_whole.calls ((⟨#[32]⟩ : ByteArray) ++ ((x13_14 ++ x15_16) ++ a1)) t186 t187 t188 _ A35.out).mono ?_); rintro e w105 ⟨rfl, hb⟩; have n0_ := Aside0.mk (below_step (by repeat (first | (with_reducible first | exact HB.out | apply below_alloc | apply pw_below_drewN | apply below_drew1) | exact HB.out)) hb); clear HB; have HB := n0_; clear n0_; (try clear hb); (try clear hb2); (try clear hk); (try clear hi)) | (go_at_call 24; (try (rename_i hK_; simp only [List.append] at hK_)); (with_reducible refine (brk_Marker.calls kj16 ((⟨#[32]⟩ : ByteArray) ++ ((x13_14 ++ x15_16) ++ a1)) t186 t187 t188 t189 _ A36.out).mono ?_); rintro e w106 ⟨rfl, hb⟩; have n0_ := Aside0.mk (below_step (by repeat (first | (with_reducible first | exact HB.out | apply below_alloc | apply pw_below_drewN | apply below_drew1) | exact HB.out)) hb); clear HB; have HB := n0_; clear n0_; (try clear hb); (try clear hb2); (try clear hk); (try clear hi)) | (go_at_call 27; (try (rename_i hK_; simp only [List.append] at hK_)); (with_reducible refine (targumlaw2_whole.calls ((x11_2 ++ (⟨#[120]⟩ : ByteArray)) ++ a1) t190 t191 t192 _ A38.out).mono ?_); rintro e w107 ⟨rfl, hb⟩; have n0_ := Aside0.mk (below_step (by repeat (first | (with_reducible first | exact HB.out | apply below_alloc | apply pw_below_drewN | apply below_drew1) | exact HB.out)) hb); clear HB; have HB := n0_; clear n0_; (try clear hb); (try clear hb2); (try clear hk); (try clear hi); clear A38) | (go_at_call 20; (try (rename_i hK_; simp only [List.append] at hK_)); (with_reducible refine (brk_Indent.calls ((x11_2 ++ (⟨#[120]⟩ : ByteArray)) ++ a1) t190 t191 t192 t193 _ A39.out).mono ?_); rintro e w108 ⟨rfl, hb⟩; have n0_ := Aside0.mk (below_step (by repeat (first | (with_reducible first | exact HB.out | apply below_alloc | apply pw_below_drewN | apply below_drew1) | exact HB.out)) hb); clear HB; have HB := n0_; clear n0_; (try clear hb); (try clear hb2); (try clear hk); (try clear hi)) | (go_at_call 27; (try (rename_i hK_; simp only [List.append] at hK_)); (with_reducible refine (targumlaw2_whole.calls ((x11_2 ++ (⟨#[120]⟩ : ByteArray)) ++ a1) t194 t195 t196 _ A41.out).mono ?_); rintro e w109 ⟨rfl, hb⟩; have n0_ := Aside0.mk (below_step (by repeat (first | (with_reducible first | exact HB.out | apply below_alloc | apply pw_below_drewN | apply below_drew1) | exact HB.out)) hb); clear HB; have HB := n0_; clear n0_; (try clear hb); (try clear hb2); (try clear hk); (try clear hi); clear A41) | (go_at_call 22; (try (rename_i hK_; simp only [List.append] at hK_)); (with_reducible refine (brk_Blank.calls ((x11_2 ++ (⟨#[120]⟩ : ByteArray)) ++ a1) t194 t195 t196 false _ A42.out).mono ?_); rintro e w110 ⟨rfl, hb⟩; have n0_ := Aside0.mk (below_step (by repeat (first | (with_reducible first | exact HB.out | apply below_alloc | apply pw_below_drewN | apply below_drew1) | exact HB.out)) hb); clear HB; have HB := n0_; clear n0_; (try clear hb); (try clear hb2); (try clear hk); (try clear hi)) | (go_at_call 27; (try (rename_i hK_; simp only [List.append] at hK_)); (with_reducible refine (targumlaw2_whole.calls x11_2 t198 t199 t200 _ A56.out).mono ?_); rintro e w111 ⟨rfl, hb⟩; have n0_ := Aside0.mk (below_step (by repeat (first | (with_reducible first | exact HB.out | apply below_alloc | apply pw_below_drewN | apply below_drew1) | exact HB.out)) hb); clear HB; have HB := n0_; clear n0_; (try clear hb); (try clear hb2); (try clear hk); (try clear hi)) | (go_at_call 22; (try (rename_i hK_; simp only [List.append] at hK_)); (with_reducible refine (brk_Blank.calls x11_2 t198 t199 t200 false _ A57.out).mono ?_); rintro e w112 ⟨rfl, hb⟩; have n0_ := Aside0.mk (below_step (by repeat (first | (with_reducible first | exact HB.out | apply below_alloc | apply pw_below_drewN | apply below_drew1) | exact HB.out)) hb); clear HB; have HB := n0_; clear n0_; (try clear hb); (try clear hb2); (try clear hk); (try clear hi)))
                                                      go_ret
                                                      exact ⟨by first | rfl | (simp [errW_none, errW_some] <;> rfl) | (simp [*, errW_none, errW_some] <;> rfl), by repeat (first | (with_reducible first | exact HB.out | apply below_alloc | apply pw_below_drewN | apply below_drew1) | exact HB.out)⟩
                                                · rw [if_neg c40] at H
                                                  have c40b0 : (t193 == (wrap64 (Int.tmod a0 40))) = false := beq_eq_false_iff_ne.mpr c40
                                                  have c40b1 : (t193 != (wrap64 (Int.tmod a0 40))) = true := bne_iff_ne.mpr c40
                                                  obtain rfl := Option.some.inj H
                                                  go_wp2_with (first | (go_at_call 27; (try (rename_i hK_; simp only [List.append] at hK_)); (with_reducible refine (targumlaw2_whole.calls ((x13_14 ++ x15_16) ++ a1) t174 t175 t176 _ A23.out).mono ?_); rintro e w113 ⟨rfl, hb⟩; have n0_ := Aside0.mk (below_step (by repeat (first | (with_reducible first | exact HB.out | apply below_alloc | apply pw_below_drewN | apply below_drew1) | exact HB.out)) hb); clear HB; have HB := n0_; clear n0_; (try clear hb); (try clear hb2); (try clear hk); (try clear hi)) | (go_at_call 24; (try (rename_i hK_; simp only [List.append] at hK_)); (with_reducible refine (brk_Marker.calls kj16 ((x13_14 ++ x15_16) ++ a1) t174 t175 t176 t177 _ A24.out).mono ?_); rintro e w114 ⟨rfl, hb⟩; have n0_ := Aside0.mk (below_step (by repeat (first | (with_reducible first | exact HB.out | apply below_alloc | apply pw_below_drewN | apply below_drew1) | exact HB.out)) hb); clear HB; have HB := n0_; clear n0_; (try clear hb); (try clear hb2); (try clear hk); (try clear hi)) | (go_at_call 27; (try (rename_i hK_; simp only [List.append] at hK_)); (with_reducible refine (targumlaw2_whole.calls x13_14 t178 t179 t180 _ A26.out).mono ?_); rintro e w115 ⟨rfl, hb⟩; have n0_ := Aside0.mk (below_step (by repeat (first | (with_reducible first | exact HB.out | apply below_alloc | apply pw_below_drewN | apply below_drew1) | exact HB.out)) hb); clear HB; have HB := n0_; clear n0_; (try clear hb); (try clear hb2); (try clear hk); (try clear hi)) | (go_at_call 24; (try (rename_i hK_; simp only [List.append] at hK_)); (with_reducible refine (brk_Marker.calls kj16 x13_14 t178 t179 t180 t181 _ A27.out).mono ?_); rintro e w116 ⟨rfl, hb⟩; have n0_ := Aside0.mk (below_step (by repeat (first | (with_reducible first | exact HB.out | apply below_alloc | apply pw_below_drewN | apply below_drew1) | exact HB.out)) hb); clear HB; have HB := n0_; clear n0_; (try clear hb); (try clear hb2); (try clear hk); (try clear hi)) | (go_at_call 27; (try (rename_i hK_; simp only [List.append] at hK_)); (with_reducible refine (targumlaw2_whole.calls ((x13_14 ++ (⟨#[120]⟩ : ByteArray)) ++ a1) t182 t183 t184 _ A31.out).mono ?_); rintro e w117 ⟨rfl, hb⟩; have n0_ := Aside0.mk (below_step (by repeat (first | (with_reducible first | exact HB.out | apply below_alloc | apply pw_below_drewN | apply below_drew1) | exact HB.out)) hb); clear HB; have HB := n0_; clear n0_; (try clear hb); (try clear hb2); (try clear hk); (try clear hi)) | (go_at_call 24; (try (rename_i hK_; simp only [List.append] at hK_)); (with_reducible refine (brk_Marker.calls kj16 ((x13_14 ++ (⟨#[120]⟩ : ByteArray)) ++ a1) t182 t183 t184 t185 _ A32.out).mono ?_); rintro e w118 ⟨rfl, hb⟩; have n0_ := Aside0.mk (below_step (by repeat (first | (with_reducible first | exact HB.out | apply below_alloc | apply pw_below_drewN | apply below_drew1) | exact HB.out)) hb); clear HB; have HB := n0_; clear n0_; (try clear hb); (try clear hb2); (try clear hk); (try clear hi)) | (go_at_call 27; (try (rename_i hK_; simp only [List.append] at hK_)); (with_reducible refine (targumlaw2_whole.calls ((⟨#[32]⟩ : ByteArray) ++ ((x13_14 ++ x15_16) ++ a1)) t186 t187 t188 _ A35.out).mono ?_); rintro e w119 ⟨rfl, hb⟩; have n0_ := Aside0.mk (below_step (by repeat (first | (with_reducible first | exact HB.out | apply below_alloc | apply pw_below_drewN | apply below_drew1) | exact HB.out)) hb); clear HB; have HB := n0_; clear n0_; (try clear hb); (try clear hb2); (try clear hk); (try clear hi)) | (go_at_call 24; (try (rename_i hK_; simp only [List.append] at hK_)); (with_reducible refine (brk_Marker.calls kj16 ((⟨#[32]⟩ : ByteArray) ++ ((x13_14 ++ x15_16) ++ a1)) t186 t187 t188 t189 _ A36.out).mono ?_); rintro e w120 ⟨rfl, hb⟩; have n0_ := Aside0.mk (below_step (by repeat (first | (with_reducible first | exact HB.out | apply below_alloc | apply pw_below_drewN | apply below_drew1) | exact HB.out)) hb); clear HB; have HB := n0_; clear n0_; (try clear hb); (try clear hb2); (try clear hk); (try clear hi)) | (go_at_call 27; (try (rename_i hK_; simp only [List.append] at hK_)); (with_reducible refine (targumlaw2_whole.calls ((x11_2 ++ (⟨#[120]⟩ : ByteArray)) ++ a1) t190 t191 t192 _ A38.out).mono ?_); rintro e w121 ⟨rfl, hb⟩; have n0_ := Aside0.mk (below_step (by repeat (first | (with_reducible first | exact HB.out | apply below_alloc | apply pw_below_drewN | apply below_drew1) | exact HB.out)) hb); clear HB; have HB := n0_; clear n0_; (try clear hb); (try clear hb2); (try clear hk); (try clear hi)) | (go_at_call 20; (try (rename_i hK_; simp only [List.append] at hK_)); (with_reducible refine (brk_Indent.calls ((x11_2 ++ (⟨#[120]⟩ : ByteArray)) ++ a1) t190 t191 t192 t193 _ A39.out).mono ?_); rintro e w122 ⟨rfl, hb⟩; have n0_ := Aside0.mk (below_step (by repeat (first | (with_reducible first | exact HB.out | apply below_alloc | apply pw_below_drewN | apply below_drew1) | exact HB.out)) hb); clear HB; have HB := n0_; clear n0_; (try clear hb); (try clear hb2); (try clear hk); (try clear hi)))
                                                  go_ret
                                                  exact ⟨by first | rfl | (simp [errW_none, errW_some] <;> rfl) | (simp [*, errW_none, errW_some] <;> rfl), by repeat (first | (with_reducible first | exact HB.out | apply below_alloc | apply pw_below_drewN | apply below_drew1) | exact HB.out)⟩
                                              · rw [if_neg c37] at H
                                                have c37b0 : (t189 == 0) = false := beq_eq_false_iff_ne.mpr c37
                                                have c37b1 : (t189 != 0) = true := bne_iff_ne.mpr c37
                                                obtain rfl := Option.some.inj H
                                                go_wp2_with (first | (go_at_call 27; (try (rename_i hK_; simp only [List.append] at hK_)); (with_reducible refine (targumlaw2_whole.calls ((x13_14 ++ x15_16) ++ a1) t174 t175 t176 _ A23.out).mono ?_); rintro e w123 ⟨rfl, hb⟩; have n0_ := Aside0.mk (below_step (by repeat (first | (with_reducible first | exact HB.out | apply below_alloc | apply pw_below_drewN | apply below_drew1) | exact HB.out)) hb); clear HB; have HB := n0_; clear n0_; (try clear hb); (try clear hb2); (try clear hk); (try clear hi)) | (go_at_call 24; (try (rename_i hK_; simp only [List.append] at hK_)); (with_reducible refine (brk_Marker.calls kj16 ((x13_14 ++ x15_16) ++ a1) t174 t175 t176 t177 _ A24.out).mono ?_); rintro e w124 ⟨rfl, hb⟩; have n0_ := Aside0.mk (below_step (by repeat (first | (with_reducible first | exact HB.out | apply below_alloc | apply pw_below_drewN | apply below_drew1) | exact HB.out)) hb); clear HB; have HB := n0_; clear n0_; (try clear hb); (try clear hb2); (try clear hk); (try clear hi)) | (go_at_call 27; (try (rename_i hK_; simp only [List.append] at hK_)); (with_reducible refine (targumlaw2_whole.calls x13_14 t178 t179 t180 _ A26.out).mono ?_); rintro e w125 ⟨rfl, hb⟩; have n0_ := Aside0.mk (below_step (by repeat (first | (with_reducible first | exact HB.out | apply below_alloc | apply pw_below_drewN | apply below_drew1) | exact HB.out)) hb); clear HB; have HB := n0_; clear n0_; (try clear hb); (try clear hb2); (try clear hk); (try clear hi)) | (go_at_call 24; (try (rename_i hK_; simp only [List.append] at hK_)); (with_reducible refine (brk_Marker.calls kj16 x13_14 t178 t179 t180 t181 _ A27.out).mono ?_); rintro e w126 ⟨rfl, hb⟩; have n0_ := Aside0.mk (below_step (by repeat (first | (with_reducible first | exact HB.out | apply below_alloc | apply pw_below_drewN | apply below_drew1) | exact HB.out)) hb); clear HB; have HB := n0_; clear n0_; (try clear hb); (try clear hb2); (try clear hk); (try clear hi)) | (go_at_call 27; (try (rename_i hK_; simp only [List.append] at hK_)); (with_reducible refine (targumlaw2_whole.calls ((x13_14 ++ (⟨#[120]⟩ : ByteArray)) ++ a1) t182 t183 t184 _ A31.out).mono ?_); rintro e w127 ⟨rfl, hb⟩; have n0_ := Aside0.mk (below_step (by repeat (first | (with_reducible first | exact HB.out | apply below_alloc | apply pw_below_drewN | apply below_drew1) | exact HB.out)) hb); clear HB; have HB := n0_; clear n0_; (try clear hb); (try clear hb2); (try clear hk); (try clear hi)) | (go_at_call 24; (try (rename_i hK_; simp only [List.append] at hK_)); (with_reducible refine (brk_Marker.calls kj16 ((x13_14 ++ (⟨#[120]⟩ : ByteArray)) ++ a1) t182 t183 t184 t185 _ A32.out).mono ?_); rintro e w128 ⟨rfl, hb⟩; have n0_ := Aside0.mk (below_step (by repeat (first | (with_reducible first | exact HB.out | apply below_alloc | apply pw_below_drewN | apply below_drew1) | exact HB.out)) hb); clear HB; have HB := n0_; clear n0_; (try clear hb); (try clear hb2); (try clear hk); (try clear hi)) | (go_at_call 27; (try (rename_i hK_; simp only [List.append] at hK_)); (with_reducible refine (targumlaw2_whole.calls ((⟨#[32]⟩ : ByteArray) ++ ((x13_14 ++ x15_16) ++ a1)) t186 t187 t188 _ A35.out).mono ?_); rintro e w129 ⟨rfl, hb⟩; have n0_ := Aside0.mk (below_step (by repeat (first | (with_reducible first | exact HB.out | apply below_alloc | apply pw_below_drewN | apply below_drew1) | exact HB.out)) hb); clear HB; have HB := n0_; clear n0_; (try clear hb); (try clear hb2); (try clear hk); (try clear hi)) | (go_at_call 24; (try (rename_i hK_; simp only [List.append] at hK_)); (with_reducible refine (brk_Marker.calls kj16 ((⟨#[32]⟩ : ByteArray) ++ ((x13_14 ++ x15_16) ++ a1)) t186 t187 t188 t189 _ A36.out).mono ?_); rintro e w130 ⟨rfl, hb⟩; have n0_ := Aside0.mk (below_step (by repeat (first | (with_reducible first | exact HB.out | apply below_alloc | apply pw_below_drewN | apply below_drew1) | exact HB.out)) hb); clear HB; have HB := n0_; clear n0_; (try clear hb); (try clear hb2); (try clear hk); (try clear hi)))
                                                go_ret
                                                exact ⟨by first | rfl | (simp [errW_none, errW_some] <;> rfl) | (simp [*, errW_none, errW_some] <;> rfl), by repeat (first | (with_reducible first | exact HB.out | apply below_alloc | apply pw_below_drewN | apply below_drew1) | exact HB.out)⟩
                                            · rw [if_neg c34] at H
                                              exact absurd H (by simp)
                                          · rw [if_neg c33] at H
                                            have c33b0 : (t185 == 0) = false := beq_eq_false_iff_ne.mpr c33
                                            have c33b1 : (t185 != 0) = true := bne_iff_ne.mpr c33
                                            obtain rfl := Option.some.inj H
                                            go_wp2_with (first | (go_at_call 27; (try (rename_i hK_; simp only [List.append] at hK_)); (with_reducible refine (targumlaw2_whole.calls ((x13_14 ++ x15_16) ++ a1) t174 t175 t176 _ A23.out).mono ?_); rintro e w131 ⟨rfl, hb⟩; have n0_ := Aside0.mk (below_step (by repeat (first | (with_reducible first | exact HB.out | apply below_alloc | apply pw_below_drewN | apply below_drew1) | exact HB.out)) hb); clear HB; have HB := n0_; clear n0_; (try clear hb); (try clear hb2); (try clear hk); (try clear hi)) | (go_at_call 24; (try (rename_i hK_; simp only [List.append] at hK_)); (with_reducible refine (brk_Marker.calls kj16 ((x13_14 ++ x15_16) ++ a1) t174 t175 t176 t177 _ A24.out).mono ?_); rintro e w132 ⟨rfl, hb⟩; have n0_ := Aside0.mk (below_step (by repeat (first | (with_reducible first | exact HB.out | apply below_alloc | apply pw_below_drewN | apply below_drew1) | exact HB.out)) hb); clear HB; have HB := n0_; clear n0_; (try clear hb); (try clear hb2); (try clear hk); (try clear hi)) | (go_at_call 27; (try (rename_i hK_; simp only [List.append] at hK_)); (with_reducible refine (targumlaw2_whole.calls x13_14 t178 t179 t180 _ A26.out).mono ?_); rintro e w133 ⟨rfl, hb⟩; have n0_ := Aside0.mk (below_step (by repeat (first | (with_reducible first | exact HB.out | apply below_alloc | apply pw_below_drewN | apply below_drew1) | exact HB.out)) hb); clear HB; have HB := n0_; clear n0_; (try clear hb); (try clear hb2); (try clear hk); (try clear hi)) | (go_at_call 24; (try (rename_i hK_; simp only [List.append] at hK_)); (with_reducible refine (brk_Marker.calls kj16 x13_14 t178 t179 t180 t181 _ A27.out).mono ?_); rintro e w134 ⟨rfl, hb⟩; have n0_ := Aside0.mk (below_step (by repeat (first | (with_reducible first | exact HB.out | apply below_alloc | apply pw_below_drewN | apply below_drew1) | exact HB.out)) hb); clear HB; have HB := n0_; clear n0_; (try clear hb); (try clear hb2); (try clear hk); (try clear hi)) | (go_at_call 27; (try (rename_i hK_; simp only [List.append] at hK_)); (with_reducible refine (targumlaw2_whole.calls ((x13_14 ++ (⟨#[120]⟩ : ByteArray)) ++ a1) t182 t183 t184 _ A31.out).mono ?_); rintro e w135 ⟨rfl, hb⟩; have n0_ := Aside0.mk (below_step (by repeat (first | (with_reducible first | exact HB.out | apply below_alloc | apply pw_below_drewN | apply below_drew1) | exact HB.out)) hb); clear HB; have HB := n0_; clear n0_; (try clear hb); (try clear hb2); (try clear hk); (try clear hi)) | (go_at_call 24; (try (rename_i hK_; simp only [List.append] at hK_)); (with_reducible refine (brk_Marker.calls kj16 ((x13_14 ++ (⟨#[120]⟩ : ByteArray)) ++ a1) t182 t183 t184 t185 _ A32.out).mono ?_); rintro e w136 ⟨rfl, hb⟩; have n0_ := Aside0.mk (below_step (by repeat (first | (with_reducible first | exact HB.out | apply below_alloc | apply pw_below_drewN | apply below_drew1) | exact HB.out)) hb); clear HB; have HB := n0_; clear n0_; (try clear hb); (try clear hb2); (try clear hk); (try clear hi)))
                                            go_ret
                                            exact ⟨by first | rfl | (simp [errW_none, errW_some] <;> rfl) | (simp [*, errW_none, errW_some] <;> rfl), by repeat (first | (with_reducible first | exact HB.out | apply below_alloc | apply pw_below_drewN | apply below_drew1) | exact HB.out)⟩
                                        · rw [if_neg c30] at H
                                          exact absurd H (by simp)
                                      · rw [if_neg c29] at H
                                        exact absurd H (by simp)
                                    · rw [if_neg c28] at H
                                      have c28b0 : (t181 == x14_14) = false := beq_eq_false_iff_ne.mpr c28
                                      have c28b1 : (t181 != x14_14) = true := bne_iff_ne.mpr c28
                                      obtain rfl := Option.some.inj H
                                      go_wp2_with (first | (go_at_call 27; (try (rename_i hK_; simp only [List.append] at hK_)); (with_reducible refine (targumlaw2_whole.calls ((x13_14 ++ x15_16) ++ a1) t174 t175 t176 _ A23.out).mono ?_); rintro e w137 ⟨rfl, hb⟩; have n0_ := Aside0.mk (below_step (by repeat (first | (with_reducible first | exact HB.out | apply below_alloc | apply pw_below_drewN | apply below_drew1) | exact HB.out)) hb); clear HB; have HB := n0_; clear n0_; (try clear hb); (try clear hb2); (try clear hk); (try clear hi)) | (go_at_call 24; (try (rename_i hK_; simp only [List.append] at hK_)); (with_reducible refine (brk_Marker.calls kj16 ((x13_14 ++ x15_16) ++ a1) t174 t175 t176 t177 _ A24.out).mono ?_); rintro e w138 ⟨rfl, hb⟩; have n0_ := Aside0.mk (below_step (by repeat (first | (with_reducible first | exact HB.out | apply below_alloc | apply pw_below_drewN | apply below_drew1) | exact HB.out)) hb); clear HB; have HB := n0_; clear n0_; (try clear hb); (try clear hb2); (try clear hk); (try clear hi)) | (go_at_call 27; (try (rename_i hK_; simp only [List.append] at hK_)); (with_reducible refine (targumlaw2_whole.calls x13_14 t178 t179 t180 _ A26.out).mono ?_); rintro e w139 ⟨rfl, hb⟩; have n0_ := Aside0.mk (below_step (by repeat (first | (with_reducible first | exact HB.out | apply below_alloc | apply pw_below_drewN | apply below_drew1) | exact HB.out)) hb); clear HB; have HB := n0_; clear n0_; (try clear hb); (try clear hb2); (try clear hk); (try clear hi)) | (go_at_call 24; (try (rename_i hK_; simp only [List.append] at hK_)); (with_reducible refine (brk_Marker.calls kj16 x13_14 t178 t179 t180 t181 _ A27.out).mono ?_); rintro e w140 ⟨rfl, hb⟩; have n0_ := Aside0.mk (below_step (by repeat (first | (with_reducible first | exact HB.out | apply below_alloc | apply pw_below_drewN | apply below_drew1) | exact HB.out)) hb); clear HB; have HB := n0_; clear n0_; (try clear hb); (try clear hb2); (try clear hk); (try clear hi)))
                                      go_ret
                                      exact ⟨by first | rfl | (simp [errW_none, errW_some] <;> rfl) | (simp [*, errW_none, errW_some] <;> rfl), by repeat (first | (with_reducible first | exact HB.out | apply below_alloc | apply pw_below_drewN | apply below_drew1) | exact HB.out)⟩
                                  · rw [if_neg c25] at H
                                    have c25b0 : (t177 == x14_14) = false := beq_eq_false_iff_ne.mpr c25
                                    have c25b1 : (t177 != x14_14) = true := bne_iff_ne.mpr c25
                                    obtain rfl := Option.some.inj H
                                    go_wp2_with (first | (go_at_call 27; (try (rename_i hK_; simp only [List.append] at hK_)); (with_reducible refine (targumlaw2_whole.calls ((x13_14 ++ x15_16) ++ a1) t174 t175 t176 _ A23.out).mono ?_); rintro e w141 ⟨rfl, hb⟩; have n0_ := Aside0.mk (below_step (by repeat (first | (with_reducible first | exact HB.out | apply below_alloc | apply pw_below_drewN | apply below_drew1) | exact HB.out)) hb); clear HB; have HB := n0_; clear n0_; (try clear hb); (try clear hb2); (try clear hk); (try clear hi)) | (go_at_call 24; (try (rename_i hK_; simp only [List.append] at hK_)); (with_reducible refine (brk_Marker.calls kj16 ((x13_14 ++ x15_16) ++ a1) t174 t175 t176 t177 _ A24.out).mono ?_); rintro e w142 ⟨rfl, hb⟩; have n0_ := Aside0.mk (below_step (by repeat (first | (with_reducible first | exact HB.out | apply below_alloc | apply pw_below_drewN | apply below_drew1) | exact HB.out)) hb); clear HB; have HB := n0_; clear n0_; (try clear hb); (try clear hb2); (try clear hk); (try clear hi)))
                                    go_ret
                                    exact ⟨by first | rfl | (simp [errW_none, errW_some] <;> rfl) | (simp [*, errW_none, errW_some] <;> rfl), by repeat (first | (with_reducible first | exact HB.out | apply below_alloc | apply pw_below_drewN | apply below_drew1) | exact HB.out)⟩
                                · rw [if_neg c22] at H
                                  exact absurd H (by simp)
                              · rw [if_neg c21] at H
                                exact absurd H (by simp)
                            · rw [if_neg c20] at H
                              exact absurd H (by simp)
                          · rw [if_neg c19] at H
                            exact absurd H (by simp)
  · replace c6 := Bool.eq_false_iff.mpr c6
    subst c6
    have H1 : (some false) = some r := by rw [if_neg (show ¬ (false = true) by decide)] at H; exact H
    clear H
    have H := H1
    clear H1
    obtain rfl := Option.some.inj H
    go_enter Tryd.func8, Tryd.ntmps8
    go_wp2_with (first | ((with_reducible refine gate_callee (f := 9) rfl ?_); refine goesL_ (some 18) rfl rfl Tryd.func9 (by kernel_rfl) rfl #[] rfl (by (try simp only [List.map_toArray, List.map_cons, List.map_nil]); first | done | rfl | (simp only [List.length_drop, List.length_take]; rfl)) ?_; (with_reducible refine (targumlaw2_known.calls k  false _ ?side1 A5.out).mono ?_); (case side1 => exact Utf8Tabs_below HG.out (by repeat (first | (with_reducible first | exact HB.out | apply below_alloc | apply pw_below_drewN | apply below_drew1) | exact HB.out))); rintro e w143 ⟨rfl, hb⟩; refine ⟨_, rfl, ?_⟩; have n0_ := Aside0.mk (below_step (by repeat (first | (with_reducible first | exact HB.out | apply below_alloc | apply pw_below_drewN | apply below_drew1) | exact HB.out)) hb); clear HB; have HB := n0_; clear n0_; (try clear hb); (try clear hb2); (try clear hk); (try clear hi)))
    go_ret
    exact ⟨by first | rfl | (simp [errW_none, errW_some] <;> rfl) | (simp [*, errW_none, errW_some] <;> rfl), by repeat (first | (with_reducible first | exact HB.out | apply below_alloc | apply pw_below_drewN | apply below_drew1) | exact HB.out)⟩

/-- THE ONE PURE STATEMENT of targumlaw2_BrkBegins: yours. -/
def targumlaw2_BrkBegins.Pure : Prop := ∀ (a0 : Int) (a1 : ByteArray) (a2 : Bool) (a3 : Bool), (Lit.int .u8 a0).wf = true → a1.size ≤ 140737488351232 → ∃ k, targumlaw2_BrkBegins.f k a0 a1 a2 a3 = some true
theorem targumlaw2_BrkBegins.walk (P : targumlaw2_BrkBegins.Pure) (a0 : Int) (a1 : ByteArray) (a2 : Bool) (a3 : Bool) (w : World) (w0 : (Lit.int .u8 a0).wf = true) (w1 : a1.size ≤ 140737488351232) (hG : Lib.Utf8Tabs 0 1 w) :
    Calls Tryd.prog 8 #[.int .u8 a0, .string a1, .bool a2, .bool a3] w fun e w' => e = .returned (.bool true) ∧ Below w.heap.size w w' := by
  obtain ⟨k, h⟩ := P a0 a1 a2 a3 w0 w1
  refine (targumlaw2_BrkBegins.calls k a0 a1 a2 a3 true w hG h).mono ?_
  rintro e w' ⟨rfl, hd⟩
  exact ⟨rfl, hd⟩

/-! ### targumhelp_Version: function 10 -/
def targumhelp_Version.f (a0 : Bool) : Option (Int) := if a0 = true then (some 11) else (some 12)
set_option maxHeartbeats 40000000 in
set_option maxRecDepth 100000 in
theorem targumhelp_Version.calls (a0 : Bool) (r : Int) (w : World) (h : targumhelp_Version.f a0 = some r) :
    Calls Tryd.prog 10 #[.bool a0] w fun e w' => e = .returned (.int .i64 r) ∧ Drawn0 w w' := by
  have H : (if a0 = true then (some 11) else (some 12)) = some r := h
  clear h
  by_cases c2 : a0 = true
  · subst c2
    have H1 : (some 11) = some r := by rw [if_pos rfl] at H; exact H
    clear H
    have H := H1
    clear H1
    obtain rfl := Option.some.inj H
    go_enter Tryd.func10, Tryd.ntmps10
    go_wp2
    go_ret
    exact ⟨by first | rfl | (simp; done) | (simp [*]; done) | (simp [wrap64]; done), by repeat (first | exact Drawn0.refl _ | apply Drawn0.step)⟩
  · replace c2 := Bool.eq_false_iff.mpr c2
    subst c2
    have H1 : (some 12) = some r := by rw [if_neg (show ¬ (false = true) by decide)] at H; exact H
    clear H
    have H := H1
    clear H1
    obtain rfl := Option.some.inj H
    go_enter Tryd.func10, Tryd.ntmps10
    go_wp2
    go_ret
    exact ⟨by first | rfl | (simp; done) | (simp [*]; done) | (simp [wrap64]; done), by repeat (first | exact Drawn0.refl _ | apply Drawn0.step)⟩

end Go.Proofs.YtkphlddgfmgogaaDoor.PB
