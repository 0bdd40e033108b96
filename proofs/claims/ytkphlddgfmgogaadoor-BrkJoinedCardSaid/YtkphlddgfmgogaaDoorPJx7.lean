/- Written by this session's own program (xprint, made over the kit's print): Lean functions with the same answers as the Go functions, and the proofs of that. Not trusted: Lean checks it. -/
import Derived.Test.YtkphlddgfmgogaaDoorPJx0
import Derived.Test.YtkphlddgfmgogaaDoorPJx2
import Derived.Test.YtkphlddgfmgogaaDoorPJx4
import Derived.Test.YtkphlddgfmgogaaDoorPJx5
import Derived.Test.YtkphlddgfmgogaaDoorPJx6
import Derived.Test.YtkphlddgfmgogaaDoorXW
namespace Go.Proofs.YtkphlddgfmgogaaDoor.PJ
open Go.RowKit Go.Proofs.YtkphlddgfmgogaaDoorW.PrintWords Go.Proofs.YtkphlddgfmgogaaDoorW.PrintLast Go.Proofs.YtkphlddgfmgogaaDoorW.PrintMore
attribute [local go_sem] max2_int min2_int max_two min_two max_three min_three max_four min_four   -- for this text's walks alone
set_option linter.unusedVariables false
set_option linter.unusedSimpArgs false

/-! ### targumlaw2_BrkJoined: function 5 -/
mutual
def targumlaw2_BrkJoined.l0 : Nat → List ByteArray → Int → ByteArray → ByteArray → List (S27) → Int → Option (Bool)
  | 0, _, _, _, _, _, _ => none
  | k + 1, x0, x1, x6, x7, x8, x9 => if x9 < (x0.length : Int) then (targumlaw2_BrkJoined.j1 k x0 x1 x6 x7 x8 x9 (decide (x9 < 20))) else (targumlaw2_BrkJoined.j1 k x0 x1 x6 x7 x8 x9 false)
def targumlaw2_BrkJoined.j1 : Nat → List ByteArray → Int → ByteArray → ByteArray → List (S27) → Int → Bool → Option (Bool)
  | 0, _, _, _, _, _, _, _ => none
  | k + 1, x0, x1, x6, x7, x8, x9, x25 => if x25 = true then (if 0 ≤ x9 then (if x9 < (x0.length : Int) then (if ((rdOf ByteArray.empty x0 x9).size : Int) > 50 then (targumlaw2_BrkJoined.j2 k x0 x1 x6 x7 x8 x9 true) else ((targumref1_Well.f k (rdOf ByteArray.empty x0 x9)).bind fun t150 => (targumlaw2_BrkJoined.j2 k x0 x1 x6 x7 x8 x9 (!t150)))) else (none)) else (none)) else ((brk_Lines.f k 11 x7).bind fun t160 => ((targumhelp_Lines.f k t160 x8).bind fun t163 => (if t163 = true then (if (Int.tmod x1 6) > 2 then (some true) else ((brk_Lines.f k 12 x7).bind fun t164 => ((targumhelp_Lines.f k t164 x8).bind fun t167 => (some t167)))) else (some false))))
def targumlaw2_BrkJoined.j2 : Nat → List ByteArray → Int → ByteArray → ByteArray → List (S27) → Int → Bool → Option (Bool)
  | 0, _, _, _, _, _, _, _ => none
  | k + 1, x0, x1, x6, x7, x8, x9, x41 => if x41 = true then (some true) else (targumlaw2_BrkJoined.l1 k x0 x1 x6 x7 x8 x9 0)
def targumlaw2_BrkJoined.l1 : Nat → List ByteArray → Int → ByteArray → ByteArray → List (S27) → Int → Int → Option (Bool)
  | 0, _, _, _, _, _, _, _ => none
  | k + 1, x0, x1, x6, x7, x8, x9, x10 => if 0 ≤ x9 then (if x9 < (x0.length : Int) then (if x10 < ((rdOf ByteArray.empty x0 x9).size : Int) then ((targumref1_Break.f k 11 (rdOf ByteArray.empty x0 x9) x10).bind fun t153 => (if t153 > 0 then (some true) else (targumlaw2_BrkJoined.l1 k x0 x1 x6 x7 x8 x9 (wrap64 (x10 + 1))))) else (if x8.length < 5864062014805 then (if x7.size + (rdOf ByteArray.empty x0 x9).size ≤ 9223372036854775807 then (if (x7 ++ (rdOf ByteArray.empty x0 x9)).size + x6.size ≤ 9223372036854775807 then (targumlaw2_BrkJoined.l0 k x0 x1 x6 ((x7 ++ (rdOf ByteArray.empty x0 x9)) ++ x6) (x8 ++ [(⟨(x7.size : Int), wrap64 ((x7.size : Int) + ((rdOf ByteArray.empty x0 x9).size : Int)), wrap64 ((wrap64 ((x7.size : Int) + ((rdOf ByteArray.empty x0 x9).size : Int))) + (x6.size : Int))⟩ : S27)]) (wrap64 (x9 + 1))) else (none)) else (none)) else (none))) else (none)) else (none)
end
def targumlaw2_BrkJoined.f (k : Nat) (l0 : List ByteArray) (a1 : Int) : Option (Bool) := (targumlaw2_known.f k).bind fun t146 => (if t146 = true then (if 0 ≤ (Int.tmod a1 6) then (if (Int.tmod a1 6) < 6 then (targumlaw2_BrkJoined.l0 k l0 a1 (Go.Proofs.YtkphlddgfmgogaaDoor.XW.arrAt ([(⟨#[10]⟩ : ByteArray), (⟨#[13]⟩ : ByteArray), (⟨#[13, 10]⟩ : ByteArray), (⟨#[194, 133]⟩ : ByteArray), (⟨#[226, 128, 168]⟩ : ByteArray), (⟨#[226, 128, 169]⟩ : ByteArray)] : List ByteArray) ((Int.tmod a1 6) : Int).toNat (⟨#[]⟩ : ByteArray)) (⟨#[]⟩ : ByteArray) ([] : List (S27)) 0) else (none)) else (none)) else (some false))
theorem targumlaw2_BrkJoined.mono_l : ∀ k, (∀ y0 y1 y2 y3 y4 y5, LeO (targumlaw2_BrkJoined.l0 k y0 y1 y2 y3 y4 y5) (targumlaw2_BrkJoined.l0 (k + 1) y0 y1 y2 y3 y4 y5)) ∧ (∀ y0 y1 y2 y3 y4 y5 y6, LeO (targumlaw2_BrkJoined.j1 k y0 y1 y2 y3 y4 y5 y6) (targumlaw2_BrkJoined.j1 (k + 1) y0 y1 y2 y3 y4 y5 y6)) ∧ (∀ y0 y1 y2 y3 y4 y5 y6, LeO (targumlaw2_BrkJoined.j2 k y0 y1 y2 y3 y4 y5 y6) (targumlaw2_BrkJoined.j2 (k + 1) y0 y1 y2 y3 y4 y5 y6)) ∧ (∀ y0 y1 y2 y3 y4 y5 y6, LeO (targumlaw2_BrkJoined.l1 k y0 y1 y2 y3 y4 y5 y6) (targumlaw2_BrkJoined.l1 (k + 1) y0 y1 y2 y3 y4 y5 y6))
  | 0 => ⟨fun _ _ _ _ _ _ r h => by simp [targumlaw2_BrkJoined.l0] at h, fun _ _ _ _ _ _ _ r h => by simp [targumlaw2_BrkJoined.j1] at h, fun _ _ _ _ _ _ _ r h => by simp [targumlaw2_BrkJoined.j2] at h, fun _ _ _ _ _ _ _ r h => by simp [targumlaw2_BrkJoined.l1] at h⟩
  | k + 1 => by
    obtain ⟨ih0, ih1, ih2, ih3⟩ := targumlaw2_BrkJoined.mono_l k
    refine ⟨?_, ?_, ?_, ?_⟩
    · intro y0 y1 y2 y3 y4 y5
      unfold targumlaw2_BrkJoined.l0
      repeat' first
      | (with_reducible exact ih0 _ _ _ _ _ _)
      | (with_reducible exact ih1 _ _ _ _ _ _ _)
      | (with_reducible exact ih2 _ _ _ _ _ _ _)
      | (with_reducible exact ih3 _ _ _ _ _ _ _)
      | (with_reducible exact brk_Lines.mono _ _ _)
      | (with_reducible exact targumhelp_Lines.mono _ _ _)
      | (with_reducible exact targumlaw2_known.mono _)
      | (with_reducible exact targumref1_Break.mono _ _ _ _)
      | (with_reducible exact targumref1_Well.mono _ _)
      | (with_reducible exact LeO.refl _)
      | (with_reducible exact LeO.none _)
      | (with_reducible refine LeO.ite ?_ ?_)
      | (with_reducible refine LeO.bind ?_ (fun _ => ?_))
      | exact ih0 _ _ _ _ _ _
      | exact ih1 _ _ _ _ _ _ _
      | exact ih2 _ _ _ _ _ _ _
      | exact ih3 _ _ _ _ _ _ _
      | exact brk_Lines.mono _ _ _
      | exact targumhelp_Lines.mono _ _ _
      | exact targumlaw2_known.mono _
      | exact targumref1_Break.mono _ _ _ _
      | exact targumref1_Well.mono _ _
      | exact LeO.none _
      | refine LeO.ite ?_ ?_
      | refine LeO.bind ?_ (fun _ => ?_)
    · intro y0 y1 y2 y3 y4 y5 y6
      unfold targumlaw2_BrkJoined.j1
      repeat' first
      | (with_reducible exact ih0 _ _ _ _ _ _)
      | (with_reducible exact ih1 _ _ _ _ _ _ _)
      | (with_reducible exact ih2 _ _ _ _ _ _ _)
      | (with_reducible exact ih3 _ _ _ _ _ _ _)
      | (with_reducible exact brk_Lines.mono _ _ _)
      | (with_reducible exact targumhelp_Lines.mono _ _ _)
      | (with_reducible exact targumlaw2_known.mono _)
      | (with_reducible exact targumref1_Break.mono _ _ _ _)
      | (with_reducible exact targumref1_Well.mono _ _)
      | (with_reducible exact LeO.refl _)
      | (with_reducible exact LeO.none _)
      | (with_reducible refine LeO.ite ?_ ?_)
      | (with_reducible refine LeO.bind ?_ (fun _ => ?_))
      | exact ih0 _ _ _ _ _ _
      | exact ih1 _ _ _ _ _ _ _
      | exact ih2 _ _ _ _ _ _ _
      | exact ih3 _ _ _ _ _ _ _
      | exact brk_Lines.mono _ _ _
      | exact targumhelp_Lines.mono _ _ _
      | exact targumlaw2_known.mono _
      | exact targumref1_Break.mono _ _ _ _
      | exact targumref1_Well.mono _ _
      | exact LeO.none _
      | refine LeO.ite ?_ ?_
      | refine LeO.bind ?_ (fun _ => ?_)
    · intro y0 y1 y2 y3 y4 y5 y6
      unfold targumlaw2_BrkJoined.j2
      repeat' first
      | (with_reducible exact ih0 _ _ _ _ _ _)
      | (with_reducible exact ih1 _ _ _ _ _ _ _)
      | (with_reducible exact ih2 _ _ _ _ _ _ _)
      | (with_reducible exact ih3 _ _ _ _ _ _ _)
      | (with_reducible exact brk_Lines.mono _ _ _)
      | (with_reducible exact targumhelp_Lines.mono _ _ _)
      | (with_reducible exact targumlaw2_known.mono _)
      | (with_reducible exact targumref1_Break.mono _ _ _ _)
      | (with_reducible exact targumref1_Well.mono _ _)
      | (with_reducible exact LeO.refl _)
      | (with_reducible exact LeO.none _)
      | (with_reducible refine LeO.ite ?_ ?_)
      | (with_reducible refine LeO.bind ?_ (fun _ => ?_))
      | exact ih0 _ _ _ _ _ _
      | exact ih1 _ _ _ _ _ _ _
      | exact ih2 _ _ _ _ _ _ _
      | exact ih3 _ _ _ _ _ _ _
      | exact brk_Lines.mono _ _ _
      | exact targumhelp_Lines.mono _ _ _
      | exact targumlaw2_known.mono _
      | exact targumref1_Break.mono _ _ _ _
      | exact targumref1_Well.mono _ _
      | exact LeO.none _
      | refine LeO.ite ?_ ?_
      | refine LeO.bind ?_ (fun _ => ?_)
    · intro y0 y1 y2 y3 y4 y5 y6
      unfold targumlaw2_BrkJoined.l1
      repeat' first
      | (with_reducible exact ih0 _ _ _ _ _ _)
      | (with_reducible exact ih1 _ _ _ _ _ _ _)
      | (with_reducible exact ih2 _ _ _ _ _ _ _)
      | (with_reducible exact ih3 _ _ _ _ _ _ _)
      | (with_reducible exact brk_Lines.mono _ _ _)
      | (with_reducible exact targumhelp_Lines.mono _ _ _)
      | (with_reducible exact targumlaw2_known.mono _)
      | (with_reducible exact targumref1_Break.mono _ _ _ _)
      | (with_reducible exact targumref1_Well.mono _ _)
      | (with_reducible exact LeO.refl _)
      | (with_reducible exact LeO.none _)
      | (with_reducible refine LeO.ite ?_ ?_)
      | (with_reducible refine LeO.bind ?_ (fun _ => ?_))
      | exact ih0 _ _ _ _ _ _
      | exact ih1 _ _ _ _ _ _ _
      | exact ih2 _ _ _ _ _ _ _
      | exact ih3 _ _ _ _ _ _ _
      | exact brk_Lines.mono _ _ _
      | exact targumhelp_Lines.mono _ _ _
      | exact targumlaw2_known.mono _
      | exact targumref1_Break.mono _ _ _ _
      | exact targumref1_Well.mono _ _
      | exact LeO.none _
      | refine LeO.ite ?_ ?_
      | refine LeO.bind ?_ (fun _ => ?_)
theorem targumlaw2_BrkJoined.mono : ∀ a0 a1 k, LeO (targumlaw2_BrkJoined.f k a0 a1) (targumlaw2_BrkJoined.f (k + 1) a0 a1) := by
  intro a0 a1 k
  obtain ⟨ih0, ih1, ih2, ih3⟩ := targumlaw2_BrkJoined.mono_l k
  unfold targumlaw2_BrkJoined.f
  repeat' first
      | (with_reducible exact ih0 _ _ _ _ _ _)
      | (with_reducible exact ih1 _ _ _ _ _ _ _)
      | (with_reducible exact ih2 _ _ _ _ _ _ _)
      | (with_reducible exact ih3 _ _ _ _ _ _ _)
      | (with_reducible exact brk_Lines.mono _ _ _)
      | (with_reducible exact targumhelp_Lines.mono _ _ _)
      | (with_reducible exact targumlaw2_known.mono _)
      | (with_reducible exact targumref1_Break.mono _ _ _ _)
      | (with_reducible exact targumref1_Well.mono _ _)
      | (with_reducible exact LeO.refl _)
      | (with_reducible exact LeO.none _)
      | (with_reducible refine LeO.ite ?_ ?_)
      | (with_reducible refine LeO.bind ?_ (fun _ => ?_))
      | exact ih0 _ _ _ _ _ _
      | exact ih1 _ _ _ _ _ _ _
      | exact ih2 _ _ _ _ _ _ _
      | exact ih3 _ _ _ _ _ _ _
      | exact brk_Lines.mono _ _ _
      | exact targumhelp_Lines.mono _ _ _
      | exact targumlaw2_known.mono _
      | exact targumref1_Break.mono _ _ _ _
      | exact targumref1_Well.mono _ _
      | exact LeO.none _
      | refine LeO.ite ?_ ?_
      | refine LeO.bind ?_ (fun _ => ?_)
def targumlaw2_BrkJoined.T17 : Bool × List (List Nat × List Nat) := (true, [([], []), ([], []), ([1], [1]), ([], []), ([3], [3]), ([], []), ([], []), ([5, 6], [5, 6]), ([7], [7]), ([8], [8]), ([4, 9], [4, 9]), ([], []), ([11], [11]), ([], []), ([], []), ([13, 14], [13, 14]), ([15], [15]), ([16], [16]), ([12, 17], [12, 17]), ([], []), ([19], [19]), ([18, 20], [18, 20]), ([2, 10, 21], [2, 10, 21]), ([22], [22]), ([0, 23], [0, 23]), ([24, 24, 0, 1, 2, 3, 4, 5, 6, 7, 8, 9, 10, 11, 12, 13, 14, 15, 16, 17, 18, 19, 20, 21, 22, 23, 24], [0, 24])])
def targumlaw2_BrkJoined.B17 : List Nat := [0, 0, 2, 0, 8, 0, 0, 96, 224, 480, 1016, 0, 2048, 0, 0, 24576, 57344, 122880, 260096, 0, 524288, 2095104, 4194302, 8388606, 16777215, 33554431]
theorem targumlaw2_BrkJoined.tab17 : rtab .any (opsOf Tryd.f5 17) = targumlaw2_BrkJoined.T17 := by kernel_rfl
theorem targumlaw2_BrkJoined.bits17 : waitsOk targumlaw2_BrkJoined.T17.2 targumlaw2_BrkJoined.B17 = true := by kernel_rfl
set_option maxHeartbeats 40000000 in
set_option maxRecDepth 100000 in
theorem targumlaw2_BrkJoined.calls (k : Nat) (A0 : Option Addr) (c0 : Nat) (l0 : List ByteArray) (a1 : Int) (r : Bool) (w : World) (hr0 : Kd.C Kd.string w A0 l0.length l0) (hc0 : l0.length ≤ c0) (hG : Lib.Utf8Tabs 0 1 w) (h : targumlaw2_BrkJoined.f k l0 a1 = some r) :
    Calls Tryd.prog 5 #[.slice A0 l0.length c0, .int .u8 a1] w fun e w' => e = .returned (.bool r) ∧ Below w.heap.size w w' := by
  have hu33 := Tryd.underlying33
  have hu27 := Tryd.underlying27
  have HG := Aside0.mk hG
  clear hG
  have HR0 := Aside0.mk hr0
  have HC0 := Aside0.mk hc0
  clear hr0 hc0
  have HB := Aside0.mk (Below.refl w.heap.size w)
  have H : ((targumlaw2_known.f k).bind fun t146 => (if t146 = true then (if 0 ≤ (Int.tmod a1 6) then (if (Int.tmod a1 6) < 6 then (targumlaw2_BrkJoined.l0 k l0 a1 (Go.Proofs.YtkphlddgfmgogaaDoor.XW.arrAt ([(⟨#[10]⟩ : ByteArray), (⟨#[13]⟩ : ByteArray), (⟨#[13, 10]⟩ : ByteArray), (⟨#[194, 133]⟩ : ByteArray), (⟨#[226, 128, 168]⟩ : ByteArray), (⟨#[226, 128, 169]⟩ : ByteArray)] : List ByteArray) ((Int.tmod a1 6) : Int).toNat (⟨#[]⟩ : ByteArray)) (⟨#[]⟩ : ByteArray) ([] : List (S27)) 0) else (none)) else (none)) else (some false))) = some r := h
  clear h
  replace H := Option.bind_eq_some_iff.mp H
  obtain ⟨t146, A30, H⟩ := H
  replace H : (if t146 = true then (if 0 ≤ (Int.tmod a1 6) then (if (Int.tmod a1 6) < 6 then (targumlaw2_BrkJoined.l0 k l0 a1 (Go.Proofs.YtkphlddgfmgogaaDoor.XW.arrAt ([(⟨#[10]⟩ : ByteArray), (⟨#[13]⟩ : ByteArray), (⟨#[13, 10]⟩ : ByteArray), (⟨#[194, 133]⟩ : ByteArray), (⟨#[226, 128, 168]⟩ : ByteArray), (⟨#[226, 128, 169]⟩ : ByteArray)] : List ByteArray) ((Int.tmod a1 6) : Int).toNat (⟨#[]⟩ : ByteArray)) (⟨#[]⟩ : ByteArray) ([] : List (S27)) 0) else (none)) else (none)) else (some false)) = some r := H
  have A3 := Aside0.mk A30
  clear A30
  by_cases c4 : t146 = true
  · subst c4
    have H1 : (if 0 ≤ (Int.tmod a1 6) then (if (Int.tmod a1 6) < 6 then (targumlaw2_BrkJoined.l0 k l0 a1 (Go.Proofs.YtkphlddgfmgogaaDoor.XW.arrAt ([(⟨#[10]⟩ : ByteArray), (⟨#[13]⟩ : ByteArray), (⟨#[13, 10]⟩ : ByteArray), (⟨#[194, 133]⟩ : ByteArray), (⟨#[226, 128, 168]⟩ : ByteArray), (⟨#[226, 128, 169]⟩ : ByteArray)] : List ByteArray) ((Int.tmod a1 6) : Int).toNat (⟨#[]⟩ : ByteArray)) (⟨#[]⟩ : ByteArray) ([] : List (S27)) 0) else (none)) else (none)) = some r := by rw [if_pos rfl] at H; exact H
    clear H
    have H := H1
    clear H1
    obtain ⟨ji5, hji5⟩ : ∃ j_ : Int, (Int.tmod a1 6) = j_ := ⟨_, rfl⟩
    replace H : (if 0 ≤ (ji5) then (if (ji5) < 6 then (targumlaw2_BrkJoined.l0 k l0 a1 (Go.Proofs.YtkphlddgfmgogaaDoor.XW.arrAt ([(⟨#[10]⟩ : ByteArray), (⟨#[13]⟩ : ByteArray), (⟨#[13, 10]⟩ : ByteArray), (⟨#[194, 133]⟩ : ByteArray), (⟨#[226, 128, 168]⟩ : ByteArray), (⟨#[226, 128, 169]⟩ : ByteArray)] : List ByteArray) ((ji5) : Int).toNat (⟨#[]⟩ : ByteArray)) (⟨#[]⟩ : ByteArray) ([] : List (S27)) 0) else (none)) else (none)) = some r := by first | (rw [hji5] at H; exact H) | (simp only [hji5] at H ⊢; exact H)
    (try rw [hji5] at A3)
    by_cases c6 : 0 ≤ (ji5)
    · rw [if_pos c6] at H
      have c6b0 : decide (0 ≤ (ji5)) = true := decide_eq_true c6
      clear c6
      by_cases c7 : (ji5) < 6
      · rw [if_pos c7] at H
        have c7b0 : decide ((ji5) < 6) = true := decide_eq_true c7
        clear c7
        have H' := Aside0.mk H
        clear H
        go_enter Tryd.func5, Tryd.ntmps5
        go_wp2_with (first | ((with_reducible refine gate_callee (f := 9) rfl ?_); refine goesL_ (some 11) rfl rfl Tryd.func9 (by kernel_rfl) rfl #[] rfl (by (try simp only [List.map_toArray, List.map_cons, List.map_nil]); first | done | rfl | (simp only [List.length_drop, List.length_take]; rfl)) ?_; (with_reducible refine (targumlaw2_known.calls k  true _ ?side1 A3.out).mono ?_); (case side1 => exact Utf8Tabs_below HG.out (by repeat (first | (with_reducible first | exact HB.out | apply below_alloc | apply pw_below_drewN | apply below_drew1) | exact HB.out))); rintro e w8 ⟨rfl, hb⟩; refine ⟨_, rfl, ?_⟩; have n0_ := Aside0.mk (below_step (by repeat (first | (with_reducible first | exact HB.out | apply below_alloc | apply pw_below_drewN | apply below_drew1) | exact HB.out)) hb); clear HB; have HB := n0_; clear n0_; (try clear hb); (try clear hb2); (try clear hk); (try clear hi)) | ((with_reducible refine gate_dst (N := 5) rfl ?_); refine box_event ?hg (N := 5) ?hd (cs := #[.string (⟨#[]⟩ : ByteArray), .string (⟨#[]⟩ : ByteArray), .string (⟨#[]⟩ : ByteArray), .string (⟨#[]⟩ : ByteArray), .string (⟨#[]⟩ : ByteArray), .string (⟨#[]⟩ : ByteArray)]) (t := 33) ?hr ?_; (case hd => rfl); (case hg => rfl); (case hr => first | (go_simp; done) | (go_simp; rfl)); intro gb147 hg w9 hbox hb; have n0_ := Aside0.mk (below_step (by repeat (first | (with_reducible first | exact HB.out | apply below_alloc | apply pw_below_drewN | apply below_drew1) | exact HB.out)) hb); have n1_ := Aside0.mk (hbox); have n2_ := Aside0.mk ((by rw [hg]; exact (below_size (by repeat (first | (with_reducible first | exact HB.out | apply below_alloc | apply pw_below_drewN | apply below_drew1) | exact HB.out))) : w.heap.size ≤ gb147)); have n3_ := Aside0.mk ((by rw [hg]; exact (below_size (by repeat (first | (with_reducible first | exact HB.out | apply below_alloc | apply pw_below_drewN | apply below_drew1) | exact HB.out))) : w.heap.size ≤ gb147)); clear HB; have HB := n0_; have BK147 := n1_; have GW147 := n2_; have GE147 := n3_; clear n0_ n1_ n2_ n3_; clear hb hbox hg; have hcz10_0 : w9.cell? ⟨gb147, 0, none⟩ = some (.string (⟨#[]⟩ : ByteArray)) := (Go.Proofs.YtkphlddgfmgogaaDoor.XW.cellL BK147.out 0).trans rfl; have hcz10_1 : w9.cell? ⟨gb147, 1, none⟩ = some (.string (⟨#[]⟩ : ByteArray)) := (Go.Proofs.YtkphlddgfmgogaaDoor.XW.cellL BK147.out 1).trans rfl; have hcz10_2 : w9.cell? ⟨gb147, 2, none⟩ = some (.string (⟨#[]⟩ : ByteArray)) := (Go.Proofs.YtkphlddgfmgogaaDoor.XW.cellL BK147.out 2).trans rfl; have hcz10_3 : w9.cell? ⟨gb147, 3, none⟩ = some (.string (⟨#[]⟩ : ByteArray)) := (Go.Proofs.YtkphlddgfmgogaaDoor.XW.cellL BK147.out 3).trans rfl; have hcz10_4 : w9.cell? ⟨gb147, 4, none⟩ = some (.string (⟨#[]⟩ : ByteArray)) := (Go.Proofs.YtkphlddgfmgogaaDoor.XW.cellL BK147.out 4).trans rfl; have hcz10_5 : w9.cell? ⟨gb147, 5, none⟩ = some (.string (⟨#[]⟩ : ByteArray)) := (Go.Proofs.YtkphlddgfmgogaaDoor.XW.cellL BK147.out 5).trans rfl; have hfz10_0 := blk_frozen BK147.out 0; have hfz10_1 := blk_frozen BK147.out 1; have hfz10_2 := blk_frozen BK147.out 2; have hfz10_3 := blk_frozen BK147.out 3; have hfz10_4 := blk_frozen BK147.out 4; have hfz10_5 := blk_frozen BK147.out 5) | ((with_reducible refine gate_store (t := 33) (p := 5) rfl ?_); refine Go.Proofs.YtkphlddgfmgogaaDoor.XW.store_arr (t := 33) (p := 5) (v := ?vo_w11) (W1 := ((((((w9.setCell ⟨gb147, 0, none⟩ (.string (⟨#[10]⟩ : ByteArray))).setCell ⟨gb147, 1, none⟩ (.string (⟨#[13]⟩ : ByteArray))).setCell ⟨gb147, 2, none⟩ (.string (⟨#[13, 10]⟩ : ByteArray))).setCell ⟨gb147, 3, none⟩ (.string (⟨#[194, 133]⟩ : ByteArray))).setCell ⟨gb147, 4, none⟩ (.string (⟨#[226, 128, 168]⟩ : ByteArray))).setCell ⟨gb147, 5, none⟩ (.string (⟨#[226, 128, 169]⟩ : ByteArray)))) ?hg ?ho ?hn gb147 [.string (⟨#[]⟩ : ByteArray), .string (⟨#[]⟩ : ByteArray), .string (⟨#[]⟩ : ByteArray), .string (⟨#[]⟩ : ByteArray), .string (⟨#[]⟩ : ByteArray), .string (⟨#[]⟩ : ByteArray)] [.string (⟨#[10]⟩ : ByteArray), .string (⟨#[13]⟩ : ByteArray), .string (⟨#[13, 10]⟩ : ByteArray), .string (⟨#[194, 133]⟩ : ByteArray), .string (⟨#[226, 128, 168]⟩ : ByteArray), .string (⟨#[226, 128, 169]⟩ : ByteArray)] BK147.out ?hx ?hy 6 rfl rfl ?hi rfl rfl ?_; (case ho => rfl); (case hg => rfl); (case hn => rfl); (case hx => first | rfl | (go_simp; done) | (go_simp; rfl)); (case hy => first | rfl | (go_simp; done) | (go_simp; rfl)); (case hi => kernel_rfl); intro w11 hw; have n0_ : Aside0 (w11.heap[gb147]? = some (.cells #[.string (⟨#[10]⟩ : ByteArray), .string (⟨#[13]⟩ : ByteArray), .string (⟨#[13, 10]⟩ : ByteArray), .string (⟨#[194, 133]⟩ : ByteArray), .string (⟨#[226, 128, 168]⟩ : ByteArray), .string (⟨#[226, 128, 169]⟩ : ByteArray)] 33 (0, 0))) := ⟨(by rw [hw]; exact (by (with_reducible repeat (first | refine blk_drewN ?_ _ | refine blk_drew ?_ | refine blk_alloc ?_ _)); refine Go.Proofs.YtkphlddgfmgogaaDoor.XW.putL (l := [.string (⟨#[10]⟩ : ByteArray), .string (⟨#[13]⟩ : ByteArray), .string (⟨#[13, 10]⟩ : ByteArray), .string (⟨#[194, 133]⟩ : ByteArray), .string (⟨#[226, 128, 168]⟩ : ByteArray), .string (⟨#[]⟩ : ByteArray)]) ?_ 5 _ rfl; (with_reducible repeat (first | refine blk_drewN ?_ _ | refine blk_drew ?_ | refine blk_alloc ?_ _)); refine Go.Proofs.YtkphlddgfmgogaaDoor.XW.putL (l := [.string (⟨#[10]⟩ : ByteArray), .string (⟨#[13]⟩ : ByteArray), .string (⟨#[13, 10]⟩ : ByteArray), .string (⟨#[194, 133]⟩ : ByteArray), .string (⟨#[]⟩ : ByteArray), .string (⟨#[]⟩ : ByteArray)]) ?_ 4 _ rfl; (with_reducible repeat (first | refine blk_drewN ?_ _ | refine blk_drew ?_ | refine blk_alloc ?_ _)); refine Go.Proofs.YtkphlddgfmgogaaDoor.XW.putL (l := [.string (⟨#[10]⟩ : ByteArray), .string (⟨#[13]⟩ : ByteArray), .string (⟨#[13, 10]⟩ : ByteArray), .string (⟨#[]⟩ : ByteArray), .string (⟨#[]⟩ : ByteArray), .string (⟨#[]⟩ : ByteArray)]) ?_ 3 _ rfl; (with_reducible repeat (first | refine blk_drewN ?_ _ | refine blk_drew ?_ | refine blk_alloc ?_ _)); refine Go.Proofs.YtkphlddgfmgogaaDoor.XW.putL (l := [.string (⟨#[10]⟩ : ByteArray), .string (⟨#[13]⟩ : ByteArray), .string (⟨#[]⟩ : ByteArray), .string (⟨#[]⟩ : ByteArray), .string (⟨#[]⟩ : ByteArray), .string (⟨#[]⟩ : ByteArray)]) ?_ 2 _ rfl; (with_reducible repeat (first | refine blk_drewN ?_ _ | refine blk_drew ?_ | refine blk_alloc ?_ _)); refine Go.Proofs.YtkphlddgfmgogaaDoor.XW.putL (l := [.string (⟨#[10]⟩ : ByteArray), .string (⟨#[]⟩ : ByteArray), .string (⟨#[]⟩ : ByteArray), .string (⟨#[]⟩ : ByteArray), .string (⟨#[]⟩ : ByteArray), .string (⟨#[]⟩ : ByteArray)]) ?_ 1 _ rfl; (with_reducible repeat (first | refine blk_drewN ?_ _ | refine blk_drew ?_ | refine blk_alloc ?_ _)); refine Go.Proofs.YtkphlddgfmgogaaDoor.XW.putL (l := [.string (⟨#[]⟩ : ByteArray), .string (⟨#[]⟩ : ByteArray), .string (⟨#[]⟩ : ByteArray), .string (⟨#[]⟩ : ByteArray), .string (⟨#[]⟩ : ByteArray), .string (⟨#[]⟩ : ByteArray)]) ?_ 0 _ rfl; (with_reducible repeat (first | refine blk_drewN ?_ _ | refine blk_drew ?_ | refine blk_alloc ?_ _)); exact BK147.out))⟩; have n1_ : Aside0 (Below w.heap.size w w11) := ⟨(by rw [hw]; exact (by repeat (first | (with_reducible first | exact HB.out | apply below_alloc | apply pw_below_drewN | apply below_drew1 | refine below_set ?_ GE147.out) | exact HB.out)))⟩; clear hw; clear BK147; clear HB; have BK147 := n0_; have HB := n1_; clear n0_ n1_; have hcz12_0 : w11.cell? ⟨gb147, 0, none⟩ = some (.string (⟨#[10]⟩ : ByteArray)) := (Go.Proofs.YtkphlddgfmgogaaDoor.XW.cellL BK147.out 0).trans rfl; have hcz12_1 : w11.cell? ⟨gb147, 1, none⟩ = some (.string (⟨#[13]⟩ : ByteArray)) := (Go.Proofs.YtkphlddgfmgogaaDoor.XW.cellL BK147.out 1).trans rfl; have hcz12_2 : w11.cell? ⟨gb147, 2, none⟩ = some (.string (⟨#[13, 10]⟩ : ByteArray)) := (Go.Proofs.YtkphlddgfmgogaaDoor.XW.cellL BK147.out 2).trans rfl; have hcz12_3 : w11.cell? ⟨gb147, 3, none⟩ = some (.string (⟨#[194, 133]⟩ : ByteArray)) := (Go.Proofs.YtkphlddgfmgogaaDoor.XW.cellL BK147.out 3).trans rfl; have hcz12_4 : w11.cell? ⟨gb147, 4, none⟩ = some (.string (⟨#[226, 128, 168]⟩ : ByteArray)) := (Go.Proofs.YtkphlddgfmgogaaDoor.XW.cellL BK147.out 4).trans rfl; have hcz12_5 : w11.cell? ⟨gb147, 5, none⟩ = some (.string (⟨#[226, 128, 169]⟩ : ByteArray)) := (Go.Proofs.YtkphlddgfmgogaaDoor.XW.cellL BK147.out 5).trans rfl; have hfz12_0 := blk_frozen BK147.out 0; have hfz12_1 := blk_frozen BK147.out 1; have hfz12_2 := blk_frozen BK147.out 2; have hfz12_3 := blk_frozen BK147.out 3; have hfz12_4 := blk_frozen BK147.out 4; have hfz12_5 := blk_frozen BK147.out 5; try have hiz1 : (0 ≤ (ji5 : Int) ∧ (ji5 : Int) < 6) = True := eq_true ⟨of_decide_eq_true (by first | (with_reducible assumption) | assumption), of_decide_eq_true (by first | (with_reducible assumption) | assumption)⟩; try have hkz1 : (0 ≤ (ji5 : Int)) = True := eq_true (of_eq_true hiz1).1; try have hjz1 : ((ji5 : Int) < 6) = True := eq_true (of_eq_true hiz1).2; try have hvz1 : w11.cell? ⟨gb147, (ji5 : Int).toNat, none⟩ = some (.string (Go.Proofs.YtkphlddgfmgogaaDoor.XW.arrAt ([(⟨#[10]⟩ : ByteArray), (⟨#[13]⟩ : ByteArray), (⟨#[13, 10]⟩ : ByteArray), (⟨#[194, 133]⟩ : ByteArray), (⟨#[226, 128, 168]⟩ : ByteArray), (⟨#[226, 128, 169]⟩ : ByteArray)] : List ByteArray) (ji5 : Int).toNat (⟨#[]⟩ : ByteArray))) := Go.Proofs.YtkphlddgfmgogaaDoor.XW.arr_cell BK147.out ([(⟨#[10]⟩ : ByteArray), (⟨#[13]⟩ : ByteArray), (⟨#[13, 10]⟩ : ByteArray), (⟨#[194, 133]⟩ : ByteArray), (⟨#[226, 128, 168]⟩ : ByteArray), (⟨#[226, 128, 169]⟩ : ByteArray)] : List ByteArray) (⟨#[]⟩ : ByteArray) (fun z => Value.string z) rfl (by have h_ := of_decide_eq_true (p := (ji5 : Int) < _) (by first | (with_reducible assumption) | assumption); simp only [List.length_cons, List.length_nil]; omega)))
        go_loopg [7, 8, 9] k (fun kq v7 v8 v9 w' => ∃ (x7_1 : ByteArray) (x8_1 : List (S27)) (x9_1 : Int), v7 = .string x7_1 ∧ v9 = .int .i64 x9_1 ∧ Aside0 (targumlaw2_BrkJoined.l0 kq l0 a1 (Go.Proofs.YtkphlddgfmgogaaDoor.XW.arrAt ([(⟨#[10]⟩ : ByteArray), (⟨#[13]⟩ : ByteArray), (⟨#[13, 10]⟩ : ByteArray), (⟨#[194, 133]⟩ : ByteArray), (⟨#[226, 128, 168]⟩ : ByteArray), (⟨#[226, 128, 169]⟩ : ByteArray)] : List ByteArray) ((ji5) : Int).toNat (⟨#[]⟩ : ByteArray)) x7_1 x8_1 x9_1 = some r) ∧ Aside0 (kq ≤ k) ∧ Aside0 (Kd.R k27 27 w' w.heap.size (fun _ => True) v8 x8_1) ∧ Aside0 (w'.heap[gb147]? = some (.cells #[.string (⟨#[10]⟩ : ByteArray), .string (⟨#[13]⟩ : ByteArray), .string (⟨#[13, 10]⟩ : ByteArray), .string (⟨#[194, 133]⟩ : ByteArray), .string (⟨#[226, 128, 168]⟩ : ByteArray), .string (⟨#[226, 128, 169]⟩ : ByteArray)] 33 (0, 0))) ∧ Aside0 (Below w.heap.size w w'))
        case atStart => exact ⟨((⟨#[]⟩ : ByteArray)), (([] : List (S27))), (0), (by first | rfl | (simp; done) | (simp [*]; done) | (simp [wrap64]; done)), (by first | rfl | (simp; done) | (simp [*]; done) | (simp [wrap64]; done)), H', ⟨Nat.le_refl _⟩, ⟨by first | exact Kd.R_nil _ _ _ _ _ | exact Kd.N_nil _ _ _ _ _ | exact Kd.V_nil _ _ _ _ _ | exact Kd.Q_nil _ _ _ _ _ | exact Kd.S_nil _ _ _ _ _⟩, ⟨by (with_reducible repeat (first | refine blk_drewN ?_ _ | refine blk_drew ?_ | refine blk_alloc ?_ _)); exact BK147.out⟩, ⟨by repeat (first | (with_reducible first | exact HB.out | apply below_alloc | apply pw_below_drewN | apply below_drew1 | refine below_set ?_ GE147.out) | exact HB.out)⟩⟩
        case round =>
          clear H'
          try clear p2
          try clear c4
          try clear c5
          try clear c6
          try clear c6b0
          try clear c7
          try clear c7b0
          try clear c9
          try clear hcz10_0
          try clear hcz10_1
          try clear hcz10_2
          try clear hcz10_3
          try clear hcz10_4
          try clear hcz10_5
          try clear hcz12_0
          try clear hcz12_1
          try clear hcz12_2
          try clear hcz12_3
          try clear hcz12_4
          try clear hcz12_5
          try clear hfz10_0
          try clear hfz10_1
          try clear hfz10_2
          try clear hfz10_3
          try clear hfz10_4
          try clear hfz10_5
          try clear hfz12_0
          try clear hfz12_1
          try clear hfz12_2
          try clear hfz12_3
          try clear hfz12_4
          try clear hfz12_5
          obtain ⟨x7_1, x8_1, x9_1, rfl, rfl, HA, HK1, HO_8, BK147, HB⟩ := hrel
          cases gk with
          | zero => exact absurd HA.out (by simp [targumlaw2_BrkJoined.l0])
          | succ k1 =>
            have H := HA.out
            clear HA
            simp only [targumlaw2_BrkJoined.l0] at H
            have HC13 := Aside0.mk H
            clear H
            go_upto_region 8 with (fail)
            go_cut [25] (fun v25 wc => ∃ (kq : Nat) (x25_12 : Bool), v25 = .bool x25_12 ∧ Aside0 (targumlaw2_BrkJoined.j1 kq l0 a1 (Go.Proofs.YtkphlddgfmgogaaDoor.XW.arrAt ([(⟨#[10]⟩ : ByteArray), (⟨#[13]⟩ : ByteArray), (⟨#[13, 10]⟩ : ByteArray), (⟨#[194, 133]⟩ : ByteArray), (⟨#[226, 128, 168]⟩ : ByteArray), (⟨#[226, 128, 169]⟩ : ByteArray)] : List ByteArray) ((ji5) : Int).toNat (⟨#[]⟩ : ByteArray)) x7_1 x8_1 x9_1 x25_12 = some r) ∧ Aside0 (kq ≤ k1) ∧ Aside0 (Kd.R k27 27 wc w.heap.size (fun _ => True) u8 x8_1) ∧ Aside0 (wc.heap[gb147]? = some (.cells #[.string (⟨#[10]⟩ : ByteArray), .string (⟨#[13]⟩ : ByteArray), .string (⟨#[13, 10]⟩ : ByteArray), .string (⟨#[194, 133]⟩ : ByteArray), .string (⟨#[226, 128, 168]⟩ : ByteArray), .string (⟨#[226, 128, 169]⟩ : ByteArray)] 33 (0, 0))) ∧ Aside0 (Below w.heap.size w wc))
            case first =>
              have H := HC13.out
              clear HC13
              by_cases c14 : x9_1 < (l0.length : Int)
              · rw [if_pos c14] at H
                have c14b0 : decide (x9_1 < (l0.length : Int)) = true := decide_eq_true c14
                clear c14
                (first | rw [c14b0] | (simp only [i64_w, i32_w]; rw [c14b0]) | skip)
                have H' := Aside0.mk H
                clear H
                go_wp2
                go_meet
                case rel => exact ⟨_, (decide (x9_1 < 20)), (by first | rfl | (simp; done) | (simp [*]; done) | (simp [wrap64]; done)), H', ⟨by have := HK1.out; first | omega | exact Nat.le_refl _⟩, ⟨by (with_reducible repeat (first | apply Kd.R_alloc | apply Kd.R_drewN | apply Kd.R_drew)); exact HO_8.out⟩, ⟨by (with_reducible repeat (first | refine blk_drewN ?_ _ | refine blk_drew ?_ | refine blk_alloc ?_ _)); exact BK147.out⟩, ⟨by repeat (first | (with_reducible first | exact HB.out | apply below_alloc | apply pw_below_drewN | apply below_drew1 | refine below_set ?_ GE147.out) | exact HB.out)⟩⟩
              · rw [if_neg c14] at H
                have c14b0 : decide (x9_1 < (l0.length : Int)) = false := decide_eq_false c14
                clear c14
                (first | rw [c14b0] | (simp only [i64_w, i32_w]; rw [c14b0]) | skip)
                have H' := Aside0.mk H
                clear H
                go_wp2
                go_meet
                case rel => exact ⟨_, (false), (by first | rfl | (simp; done) | (simp [*]; done) | (simp [wrap64]; done)), H', ⟨by have := HK1.out; first | omega | exact Nat.le_refl _⟩, ⟨by (with_reducible repeat (first | apply Kd.R_alloc | apply Kd.R_drewN | apply Kd.R_drew)); exact HO_8.out⟩, ⟨by (with_reducible repeat (first | refine blk_drewN ?_ _ | refine blk_drew ?_ | refine blk_alloc ?_ _)); exact BK147.out⟩, ⟨by repeat (first | (with_reducible first | exact HB.out | apply below_alloc | apply pw_below_drewN | apply below_drew1 | refine below_set ?_ GE147.out) | exact HB.out)⟩⟩
            case rest =>
              clear HC13
              try clear c1
              try clear p2
              try clear c4
              try clear c5
              try clear c6
              try clear c6b0
              try clear c7
              try clear c7b0
              try clear c9
              try clear c14
              try clear c14b0
              try clear hcz10_0
              try clear hcz10_1
              try clear hcz10_2
              try clear hcz10_3
              try clear hcz10_4
              try clear hcz10_5
              try clear hcz12_0
              try clear hcz12_1
              try clear hcz12_2
              try clear hcz12_3
              try clear hcz12_4
              try clear hcz12_5
              try clear hfz10_0
              try clear hfz10_1
              try clear hfz10_2
              try clear hfz10_3
              try clear hfz10_4
              try clear hfz10_5
              try clear hfz12_0
              try clear hfz12_1
              try clear hfz12_2
              try clear hfz12_3
              try clear hfz12_4
              try clear hfz12_5
              try clear p2
              obtain ⟨kq, x25_12, rfl, HA, HJ12, HO_8, BK147, HB⟩ := hcut
              cases kq with
              | zero => exact absurd HA.out (by simp [targumlaw2_BrkJoined.j1])
              | succ kj12 =>
                have H := HA.out
                clear HA
                simp only [targumlaw2_BrkJoined.j1] at H
                by_cases c15 : x25_12 = true
                · subst c15
                  have H1 : (if 0 ≤ x9_1 then (if x9_1 < (l0.length : Int) then (if ((rdOf ByteArray.empty l0 x9_1).size : Int) > 50 then (targumlaw2_BrkJoined.j2 kj12 l0 a1 (Go.Proofs.YtkphlddgfmgogaaDoor.XW.arrAt ([(⟨#[10]⟩ : ByteArray), (⟨#[13]⟩ : ByteArray), (⟨#[13, 10]⟩ : ByteArray), (⟨#[194, 133]⟩ : ByteArray), (⟨#[226, 128, 168]⟩ : ByteArray), (⟨#[226, 128, 169]⟩ : ByteArray)] : List ByteArray) ((ji5) : Int).toNat (⟨#[]⟩ : ByteArray)) x7_1 x8_1 x9_1 true) else ((targumref1_Well.f kj12 (rdOf ByteArray.empty l0 x9_1)).bind fun t150 => (targumlaw2_BrkJoined.j2 kj12 l0 a1 (Go.Proofs.YtkphlddgfmgogaaDoor.XW.arrAt ([(⟨#[10]⟩ : ByteArray), (⟨#[13]⟩ : ByteArray), (⟨#[13, 10]⟩ : ByteArray), (⟨#[194, 133]⟩ : ByteArray), (⟨#[226, 128, 168]⟩ : ByteArray), (⟨#[226, 128, 169]⟩ : ByteArray)] : List ByteArray) ((ji5) : Int).toNat (⟨#[]⟩ : ByteArray)) x7_1 x8_1 x9_1 (!t150)))) else (none)) else (none)) = some r := by rw [if_pos rfl] at H; exact H
                  clear H
                  have H := H1
                  clear H1
                  have HC16 := Aside0.mk H
                  clear H
                  go_upto_region 10 with (fail)
                  go_cut [41] (fun v41 wc => ∃ (kq : Nat) (x41_15 : Bool), v41 = .bool x41_15 ∧ Aside0 (targumlaw2_BrkJoined.j2 kq l0 a1 (Go.Proofs.YtkphlddgfmgogaaDoor.XW.arrAt ([(⟨#[10]⟩ : ByteArray), (⟨#[13]⟩ : ByteArray), (⟨#[13, 10]⟩ : ByteArray), (⟨#[194, 133]⟩ : ByteArray), (⟨#[226, 128, 168]⟩ : ByteArray), (⟨#[226, 128, 169]⟩ : ByteArray)] : List ByteArray) ((ji5) : Int).toNat (⟨#[]⟩ : ByteArray)) x7_1 x8_1 x9_1 x41_15 = some r) ∧ Aside0 (kq ≤ kj12) ∧ Aside0 (Kd.R k27 27 wc w.heap.size (fun _ => True) u8 x8_1) ∧ Aside0 (wc.heap[gb147]? = some (.cells #[.string (⟨#[10]⟩ : ByteArray), .string (⟨#[13]⟩ : ByteArray), .string (⟨#[13, 10]⟩ : ByteArray), .string (⟨#[194, 133]⟩ : ByteArray), .string (⟨#[226, 128, 168]⟩ : ByteArray), .string (⟨#[226, 128, 169]⟩ : ByteArray)] 33 (0, 0))) ∧ Aside0 (Below w.heap.size w wc))
                  case first =>
                    have H := HC16.out
                    clear HC16
                    by_cases c17 : 0 ≤ x9_1
                    · rw [if_pos c17] at H
                      have c17b0 : decide (0 ≤ x9_1) = true := decide_eq_true c17
                      clear c17
                      (first | rw [c17b0] | (simp only [i64_w, i32_w]; rw [c17b0]) | skip)
                      by_cases c18 : x9_1 < (l0.length : Int)
                      · rw [if_pos c18] at H
                        have c18b0 : decide (x9_1 < (l0.length : Int)) = true := decide_eq_true c18
                        clear c18
                        by_cases c19 : ((rdOf ByteArray.empty l0 x9_1).size : Int) > 50
                        · rw [if_pos c19] at H
                          have c19b0 : decide (50 < ((rdOf ByteArray.empty l0 x9_1).size : Int)) = true := decide_eq_true c19
                          have c19b1 : decide (50 < (rdOf ByteArray.empty l0 x9_1).size) = true := decide_eq_true (by omega)
                          clear c19
                          have H' := Aside0.mk H
                          clear H
                          have p148 : 0 ≤ (x9_1 : Int) := of_decide_eq_true (by first | (with_reducible assumption) | assumption)
                          have q148 : x9_1 < (l0.length : Int) := of_decide_eq_true (by first | (with_reducible assumption) | assumption)
                          obtain ⟨ad148, e148, hx148_0⟩ := Kd.at_string HR0.out x9_1 p148 q148
                          cases e148
                          replace hx148_0 := (HB.out.cell (World.block_lt_of_cell? w _ hx148_0)).trans hx148_0
                          replace p148 := eq_true p148
                          replace q148 := eq_true q148
                          go_wp2
                          go_meet
                          case rel => exact ⟨_, (true), (by first | rfl | (simp; done) | (simp [*]; done) | (simp [wrap64]; done)), H', ⟨by have := HK1.out; have := HJ12.out; first | omega | exact Nat.le_refl _⟩, ⟨by (with_reducible repeat (first | apply Kd.R_alloc | apply Kd.R_drewN | apply Kd.R_drew)); exact HO_8.out⟩, ⟨by (with_reducible repeat (first | refine blk_drewN ?_ _ | refine blk_drew ?_ | refine blk_alloc ?_ _)); exact BK147.out⟩, ⟨by repeat (first | (with_reducible first | exact HB.out | apply below_alloc | apply pw_below_drewN | apply below_drew1 | refine below_set ?_ GE147.out) | exact HB.out)⟩⟩
                        · rw [if_neg c19] at H
                          have c19b0 : decide (50 < ((rdOf ByteArray.empty l0 x9_1).size : Int)) = false := decide_eq_false c19
                          have c19b1 : decide (50 < (rdOf ByteArray.empty l0 x9_1).size) = false := decide_eq_false (by omega)
                          clear c19
                          replace H := Option.bind_eq_some_iff.mp H
                          obtain ⟨t150, A200, H⟩ := H
                          replace H : (targumlaw2_BrkJoined.j2 kj12 l0 a1 (Go.Proofs.YtkphlddgfmgogaaDoor.XW.arrAt ([(⟨#[10]⟩ : ByteArray), (⟨#[13]⟩ : ByteArray), (⟨#[13, 10]⟩ : ByteArray), (⟨#[194, 133]⟩ : ByteArray), (⟨#[226, 128, 168]⟩ : ByteArray), (⟨#[226, 128, 169]⟩ : ByteArray)] : List ByteArray) ((ji5) : Int).toNat (⟨#[]⟩ : ByteArray)) x7_1 x8_1 x9_1 (!t150)) = some r := H
                          have A20 := Aside0.mk A200
                          clear A200
                          have H' := Aside0.mk H
                          clear H
                          have p148 : 0 ≤ (x9_1 : Int) := of_decide_eq_true (by first | (with_reducible assumption) | assumption)
                          have q148 : x9_1 < (l0.length : Int) := of_decide_eq_true (by first | (with_reducible assumption) | assumption)
                          obtain ⟨ad148, e148, hx148_0⟩ := Kd.at_string HR0.out x9_1 p148 q148
                          cases e148
                          replace hx148_0 := (HB.out.cell (World.block_lt_of_cell? w _ hx148_0)).trans hx148_0
                          replace p148 := eq_true p148
                          replace q148 := eq_true q148
                          have p149 : 0 ≤ (x9_1 : Int) := of_decide_eq_true (by first | (with_reducible assumption) | assumption)
                          have q149 : x9_1 < (l0.length : Int) := of_decide_eq_true (by first | (with_reducible assumption) | assumption)
                          obtain ⟨ad149, e149, hx149_0⟩ := Kd.at_string HR0.out x9_1 p149 q149
                          obtain rfl : ad148 = ad149 := (by injection e149)
                          replace hx149_0 := (HB.out.cell (World.block_lt_of_cell? w _ hx149_0)).trans hx149_0
                          replace p149 := eq_true p149
                          replace q149 := eq_true q149
                          go_wp2_with (first | (go_at_call 14; (try (rename_i hK_; simp only [List.append] at hK_)); (with_reducible refine (targumref1_Well.calls kj12 (rdOf ByteArray.empty l0 x9_1) t150 _ A20.out).mono ?_); rintro e w' ⟨rfl, ⟨nd, rfl⟩⟩))
                          go_meet
                          case rel => exact ⟨_, (!t150), (by first | rfl | (simp; done) | (simp [*]; done) | (simp [wrap64]; done)), H', ⟨by have := HK1.out; have := HJ12.out; first | omega | exact Nat.le_refl _⟩, ⟨by (with_reducible repeat (first | apply Kd.R_alloc | apply Kd.R_drewN | apply Kd.R_drew)); exact HO_8.out⟩, ⟨by (with_reducible repeat (first | refine blk_drewN ?_ _ | refine blk_drew ?_ | refine blk_alloc ?_ _)); exact BK147.out⟩, ⟨by repeat (first | (with_reducible first | exact HB.out | apply below_alloc | apply pw_below_drewN | apply below_drew1 | refine below_set ?_ GE147.out) | exact HB.out)⟩⟩
                      · rw [if_neg c18] at H
                        exact absurd H (by simp)
                    · rw [if_neg c17] at H
                      exact absurd H (by simp)
                  case rest =>
                    clear HC16
                    try clear c1
                    try clear p1
                    try clear q1
                    try clear hx1
                    try clear p2
                    try clear c4
                    try clear c5
                    try clear c6
                    try clear c6b0
                    try clear c7
                    try clear c7b0
                    try clear c9
                    try clear c14
                    try clear c14b0
                    try clear p14
                    try clear q14
                    try clear hx14
                    try clear c15
                    try clear c17
                    try clear c17b0
                    try clear c18
                    try clear c18b0
                    try clear c19
                    try clear c19b0
                    try clear c19b1
                    try clear hcz10_0
                    try clear hcz10_1
                    try clear hcz10_2
                    try clear hcz10_3
                    try clear hcz10_4
                    try clear hcz10_5
                    try clear hcz12_0
                    try clear hcz12_1
                    try clear hcz12_2
                    try clear hcz12_3
                    try clear hcz12_4
                    try clear hcz12_5
                    try clear hfz10_0
                    try clear hfz10_1
                    try clear hfz10_2
                    try clear hfz10_3
                    try clear hfz10_4
                    try clear hfz10_5
                    try clear hfz12_0
                    try clear hfz12_1
                    try clear hfz12_2
                    try clear hfz12_3
                    try clear hfz12_4
                    try clear hfz12_5
                    try clear hx148_0
                    try clear hx149_0
                    try clear p148
                    try clear p149
                    try clear p2
                    try clear q148
                    try clear q149
                    obtain ⟨kq, x41_15, rfl, HA, HJ15, HO_8, BK147, HB⟩ := hcut
                    cases kq with
                    | zero => exact absurd HA.out (by simp [targumlaw2_BrkJoined.j2])
                    | succ kj15 =>
                      have H := HA.out
                      clear HA
                      simp only [targumlaw2_BrkJoined.j2] at H
                      by_cases c21 : x41_15 = true
                      · subst c21
                        have H1 : (some true) = some r := by rw [if_pos rfl] at H; exact H
                        clear H
                        have H := H1
                        clear H1
                        obtain rfl := Option.some.inj H
                        go_wp2
                        go_ret
                        exact ⟨by first | rfl | (simp [errW_none, errW_some] <;> rfl) | (simp only [← hji5]; first | rfl | (simp [errW_none, errW_some] <;> rfl)) | (simp [*, errW_none, errW_some] <;> rfl), by repeat (first | (with_reducible first | exact HB.out | apply below_alloc | apply pw_below_drewN | apply below_drew1 | refine below_set ?_ GE147.out) | exact HB.out)⟩
                      · replace c21 := Bool.eq_false_iff.mpr c21
                        subst c21
                        have H1 : (targumlaw2_BrkJoined.l1 kj15 l0 a1 (Go.Proofs.YtkphlddgfmgogaaDoor.XW.arrAt ([(⟨#[10]⟩ : ByteArray), (⟨#[13]⟩ : ByteArray), (⟨#[13, 10]⟩ : ByteArray), (⟨#[194, 133]⟩ : ByteArray), (⟨#[226, 128, 168]⟩ : ByteArray), (⟨#[226, 128, 169]⟩ : ByteArray)] : List ByteArray) ((ji5) : Int).toNat (⟨#[]⟩ : ByteArray)) x7_1 x8_1 x9_1 0) = some r := by rw [if_neg (show ¬ (false = true) by decide)] at H; exact H
                        clear H
                        have H := H1
                        clear H1
                        have H' := Aside0.mk H
                        clear H
                        go_wp2
                        go_loopg [10] kj15 (fun kq v10 w' => ∃ (x10_4 : Int), v10 = .int .i64 x10_4 ∧ Aside0 (targumlaw2_BrkJoined.l1 kq l0 a1 (Go.Proofs.YtkphlddgfmgogaaDoor.XW.arrAt ([(⟨#[10]⟩ : ByteArray), (⟨#[13]⟩ : ByteArray), (⟨#[13, 10]⟩ : ByteArray), (⟨#[194, 133]⟩ : ByteArray), (⟨#[226, 128, 168]⟩ : ByteArray), (⟨#[226, 128, 169]⟩ : ByteArray)] : List ByteArray) ((ji5) : Int).toNat (⟨#[]⟩ : ByteArray)) x7_1 x8_1 x9_1 x10_4 = some r) ∧ Aside0 (kq ≤ kj15) ∧ Aside0 (Kd.R k27 27 w' w.heap.size (fun _ => True) u8 x8_1) ∧ Aside0 (w'.heap[gb147]? = some (.cells #[.string (⟨#[10]⟩ : ByteArray), .string (⟨#[13]⟩ : ByteArray), .string (⟨#[13, 10]⟩ : ByteArray), .string (⟨#[194, 133]⟩ : ByteArray), .string (⟨#[226, 128, 168]⟩ : ByteArray), .string (⟨#[226, 128, 169]⟩ : ByteArray)] 33 (0, 0))) ∧ Aside0 (Below w.heap.size w w'))
                        case atStart => exact ⟨(0), (by first | rfl | (simp; done) | (simp [*]; done) | (simp [wrap64]; done)), H', ⟨Nat.le_refl _⟩, ⟨by (with_reducible repeat (first | apply Kd.R_alloc | apply Kd.R_drewN | apply Kd.R_drew)); exact HO_8.out⟩, ⟨by (with_reducible repeat (first | refine blk_drewN ?_ _ | refine blk_drew ?_ | refine blk_alloc ?_ _)); exact BK147.out⟩, ⟨by repeat (first | (with_reducible first | exact HB.out | apply below_alloc | apply pw_below_drewN | apply below_drew1 | refine below_set ?_ GE147.out) | exact HB.out)⟩⟩
                        case round =>
                          clear H'
                          try clear c1
                          try clear p1
                          try clear q1
                          try clear hx1
                          try clear c2
                          try clear p2
                          try clear c4
                          try clear c5
                          try clear c6
                          try clear c6b0
                          try clear c7
                          try clear c7b0
                          try clear c9
                          try clear c14
                          try clear c14b0
                          try clear p14
                          try clear q14
                          try clear hx14
                          try clear c15
                          try clear c17
                          try clear c17b0
                          try clear c18
                          try clear c18b0
                          try clear c19
                          try clear c19b0
                          try clear c19b1
                          try clear c21
                          try clear hcz10_0
                          try clear hcz10_1
                          try clear hcz10_2
                          try clear hcz10_3
                          try clear hcz10_4
                          try clear hcz10_5
                          try clear hcz12_0
                          try clear hcz12_1
                          try clear hcz12_2
                          try clear hcz12_3
                          try clear hcz12_4
                          try clear hcz12_5
                          try clear hfz10_0
                          try clear hfz10_1
                          try clear hfz10_2
                          try clear hfz10_3
                          try clear hfz10_4
                          try clear hfz10_5
                          try clear hfz12_0
                          try clear hfz12_1
                          try clear hfz12_2
                          try clear hfz12_3
                          try clear hfz12_4
                          try clear hfz12_5
                          try clear hx148_0
                          try clear hx149_0
                          try clear p1
                          try clear p14
                          try clear p148
                          try clear p149
                          try clear p2
                          try clear q1
                          try clear q14
                          try clear q148
                          try clear q149
                          obtain ⟨x10_4, rfl, HA, HK4, HO_8, BK147, HB⟩ := hrel
                          cases gk with
                          | zero => exact absurd HA.out (by simp [targumlaw2_BrkJoined.l1])
                          | succ k4 =>
                            have H := HA.out
                            clear HA
                            simp only [targumlaw2_BrkJoined.l1] at H
                            by_cases c22 : 0 ≤ x9_1
                            · rw [if_pos c22] at H
                              have c22b0 : decide (0 ≤ x9_1) = true := decide_eq_true c22
                              clear c22
                              by_cases c23 : x9_1 < (l0.length : Int)
                              · rw [if_pos c23] at H
                                have c23b0 : decide (x9_1 < (l0.length : Int)) = true := decide_eq_true c23
                                clear c23
                                by_cases c24 : x10_4 < ((rdOf ByteArray.empty l0 x9_1).size : Int)
                                · rw [if_pos c24] at H
                                  have c24b0 : decide (x10_4 < ((rdOf ByteArray.empty l0 x9_1).size : Int)) = true := decide_eq_true c24
                                  clear c24
                                  replace H := Option.bind_eq_some_iff.mp H
                                  obtain ⟨t153, A250, H⟩ := H
                                  replace H : (if t153 > 0 then (some true) else (targumlaw2_BrkJoined.l1 k4 l0 a1 (Go.Proofs.YtkphlddgfmgogaaDoor.XW.arrAt ([(⟨#[10]⟩ : ByteArray), (⟨#[13]⟩ : ByteArray), (⟨#[13, 10]⟩ : ByteArray), (⟨#[194, 133]⟩ : ByteArray), (⟨#[226, 128, 168]⟩ : ByteArray), (⟨#[226, 128, 169]⟩ : ByteArray)] : List ByteArray) ((ji5) : Int).toNat (⟨#[]⟩ : ByteArray)) x7_1 x8_1 x9_1 (wrap64 (x10_4 + 1)))) = some r := H
                                  have A25 := Aside0.mk A250
                                  clear A250
                                  by_cases c26 : t153 > 0
                                  · rw [if_pos c26] at H
                                    have c26b0 : decide (0 < t153) = true := decide_eq_true c26
                                    clear c26
                                    obtain rfl := Option.some.inj H
                                    have p151 : 0 ≤ (x9_1 : Int) := of_decide_eq_true (by first | (with_reducible assumption) | assumption)
                                    have q151 : x9_1 < (l0.length : Int) := of_decide_eq_true (by first | (with_reducible assumption) | assumption)
                                    obtain ⟨ad151, e151, hx151_0⟩ := Kd.at_string HR0.out x9_1 p151 q151
                                    cases e151
                                    replace hx151_0 := (HB.out.cell (World.block_lt_of_cell? w _ hx151_0)).trans hx151_0
                                    replace p151 := eq_true p151
                                    replace q151 := eq_true q151
                                    have p152 : 0 ≤ (x9_1 : Int) := of_decide_eq_true (by first | (with_reducible assumption) | assumption)
                                    have q152 : x9_1 < (l0.length : Int) := of_decide_eq_true (by first | (with_reducible assumption) | assumption)
                                    obtain ⟨ad152, e152, hx152_0⟩ := Kd.at_string HR0.out x9_1 p152 q152
                                    obtain rfl : ad151 = ad152 := (by injection e152)
                                    replace hx152_0 := (HB.out.cell (World.block_lt_of_cell? w _ hx152_0)).trans hx152_0
                                    replace p152 := eq_true p152
                                    replace q152 := eq_true q152
                                    go_wp2_with (first | ((with_reducible refine gate_callee (f := 15) rfl ?_); refine goesL_ (some 56) rfl rfl Tryd.func15 (by kernel_rfl) rfl #[.int .i64 11, .string (rdOf ByteArray.empty l0 x9_1), .int .i64 x10_4] rfl (by (try simp only [List.map_toArray, List.map_cons, List.map_nil]); first | done | rfl | (simp only [List.length_drop, List.length_take]; rfl)) ?_; (with_reducible refine (targumref1_Break.calls k4 11 (rdOf ByteArray.empty l0 x9_1) x10_4 t153 _ A25.out).mono ?_); rintro e w' ⟨rfl, ⟨nd, rfl⟩⟩; refine ⟨_, rfl, ?_⟩))
                                    go_ret
                                    exact ⟨by first | rfl | (simp [errW_none, errW_some] <;> rfl) | (simp only [← hji5]; first | rfl | (simp [errW_none, errW_some] <;> rfl)) | (simp [*, errW_none, errW_some] <;> rfl), by repeat (first | (with_reducible first | exact HB.out | apply below_alloc | apply pw_below_drewN | apply below_drew1 | refine below_set ?_ GE147.out) | exact HB.out)⟩
                                  · rw [if_neg c26] at H
                                    have c26b0 : decide (0 < t153) = false := decide_eq_false c26
                                    clear c26
                                    have H' := Aside0.mk H
                                    clear H
                                    have p151 : 0 ≤ (x9_1 : Int) := of_decide_eq_true (by first | (with_reducible assumption) | assumption)
                                    have q151 : x9_1 < (l0.length : Int) := of_decide_eq_true (by first | (with_reducible assumption) | assumption)
                                    obtain ⟨ad151, e151, hx151_0⟩ := Kd.at_string HR0.out x9_1 p151 q151
                                    cases e151
                                    replace hx151_0 := (HB.out.cell (World.block_lt_of_cell? w _ hx151_0)).trans hx151_0
                                    replace p151 := eq_true p151
                                    replace q151 := eq_true q151
                                    have p152 : 0 ≤ (x9_1 : Int) := of_decide_eq_true (by first | (with_reducible assumption) | assumption)
                                    have q152 : x9_1 < (l0.length : Int) := of_decide_eq_true (by first | (with_reducible assumption) | assumption)
                                    obtain ⟨ad152, e152, hx152_0⟩ := Kd.at_string HR0.out x9_1 p152 q152
                                    obtain rfl : ad151 = ad152 := (by injection e152)
                                    replace hx152_0 := (HB.out.cell (World.block_lt_of_cell? w _ hx152_0)).trans hx152_0
                                    replace p152 := eq_true p152
                                    replace q152 := eq_true q152
                                    go_wp2_with (first | ((with_reducible refine gate_callee (f := 15) rfl ?_); refine goesL_ (some 56) rfl rfl Tryd.func15 (by kernel_rfl) rfl #[.int .i64 11, .string (rdOf ByteArray.empty l0 x9_1), .int .i64 x10_4] rfl (by (try simp only [List.map_toArray, List.map_cons, List.map_nil]); first | done | rfl | (simp only [List.length_drop, List.length_take]; rfl)) ?_; (with_reducible refine (targumref1_Break.calls k4 11 (rdOf ByteArray.empty l0 x9_1) x10_4 t153 _ A25.out).mono ?_); rintro e w' ⟨rfl, ⟨nd, rfl⟩⟩; refine ⟨_, rfl, ?_⟩))
                                    go_roundg k4
                                    case measure => have := HK1.out; have := HJ12.out; have := HJ15.out; have := HK4.out; omega
                                    case rel => exact ⟨(wrap64 (x10_4 + 1)), (by first | rfl | (simp; done) | (simp [*]; done) | (simp [wrap64]; done)), H', ⟨by have := HK1.out; have := HJ12.out; have := HJ15.out; have := HK4.out; omega⟩, ⟨by (with_reducible repeat (first | apply Kd.R_alloc | apply Kd.R_drewN | apply Kd.R_drew)); exact HO_8.out⟩, ⟨by (with_reducible repeat (first | refine blk_drewN ?_ _ | refine blk_drew ?_ | refine blk_alloc ?_ _)); exact BK147.out⟩, ⟨by repeat (first | (with_reducible first | exact HB.out | apply below_alloc | apply pw_below_drewN | apply below_drew1 | refine below_set ?_ GE147.out) | exact HB.out)⟩⟩
                                · rw [if_neg c24] at H
                                  have c24b0 : decide (x10_4 < ((rdOf ByteArray.empty l0 x9_1).size : Int)) = false := decide_eq_false c24
                                  clear c24
                                  by_cases c27 : x8_1.length < 5864062014805
                                  · rw [if_pos c27] at H
                                    have LMc27 := Aside0.mk c27
                                    clear c27
                                    obtain ⟨y156, hy156⟩ : ∃ y_ : List (S27), y_ = (x8_1 ++ [(⟨(x7_1.size : Int), wrap64 ((x7_1.size : Int) + ((rdOf ByteArray.empty l0 x9_1).size : Int)), wrap64 ((wrap64 ((x7_1.size : Int) + ((rdOf ByteArray.empty l0 x9_1).size : Int))) + ((Go.Proofs.YtkphlddgfmgogaaDoor.XW.arrAt ([(⟨#[10]⟩ : ByteArray), (⟨#[13]⟩ : ByteArray), (⟨#[13, 10]⟩ : ByteArray), (⟨#[194, 133]⟩ : ByteArray), (⟨#[226, 128, 168]⟩ : ByteArray), (⟨#[226, 128, 169]⟩ : ByteArray)] : List ByteArray) ((ji5) : Int).toNat (⟨#[]⟩ : ByteArray)).size : Int))⟩ : S27)]) := ⟨_, rfl⟩
                                    replace H : (if x7_1.size + (rdOf ByteArray.empty l0 x9_1).size ≤ 9223372036854775807 then (if (x7_1 ++ (rdOf ByteArray.empty l0 x9_1)).size + (Go.Proofs.YtkphlddgfmgogaaDoor.XW.arrAt ([(⟨#[10]⟩ : ByteArray), (⟨#[13]⟩ : ByteArray), (⟨#[13, 10]⟩ : ByteArray), (⟨#[194, 133]⟩ : ByteArray), (⟨#[226, 128, 168]⟩ : ByteArray), (⟨#[226, 128, 169]⟩ : ByteArray)] : List ByteArray) ((ji5) : Int).toNat (⟨#[]⟩ : ByteArray)).size ≤ 9223372036854775807 then (targumlaw2_BrkJoined.l0 k4 l0 a1 (Go.Proofs.YtkphlddgfmgogaaDoor.XW.arrAt ([(⟨#[10]⟩ : ByteArray), (⟨#[13]⟩ : ByteArray), (⟨#[13, 10]⟩ : ByteArray), (⟨#[194, 133]⟩ : ByteArray), (⟨#[226, 128, 168]⟩ : ByteArray), (⟨#[226, 128, 169]⟩ : ByteArray)] : List ByteArray) ((ji5) : Int).toNat (⟨#[]⟩ : ByteArray)) ((x7_1 ++ (rdOf ByteArray.empty l0 x9_1)) ++ (Go.Proofs.YtkphlddgfmgogaaDoor.XW.arrAt ([(⟨#[10]⟩ : ByteArray), (⟨#[13]⟩ : ByteArray), (⟨#[13, 10]⟩ : ByteArray), (⟨#[194, 133]⟩ : ByteArray), (⟨#[226, 128, 168]⟩ : ByteArray), (⟨#[226, 128, 169]⟩ : ByteArray)] : List ByteArray) ((ji5) : Int).toNat (⟨#[]⟩ : ByteArray))) y156 (wrap64 (x9_1 + 1))) else (none)) else (none)) = some r := by first | (rw [hy156]; with_reducible exact H) | (have H2_ := (Option.bind_some _ _).symm.trans H; rw [hy156]; with_reducible exact H2_) | (have H2_ := (Option.bind_some _ _).symm.trans H; with_reducible exact H2_) | with_reducible exact H | (rw [hy156]; exact H) | exact H
                                    have Ny156 := Aside0.mk hy156
                                    clear hy156
                                    by_cases c28 : x7_1.size + (rdOf ByteArray.empty l0 x9_1).size ≤ 9223372036854775807
                                    · rw [if_pos c28] at H
                                      have c28b0 := eq_true c28
                                      have c28b1 : decide (x7_1.size + (rdOf ByteArray.empty l0 x9_1).size ≤ 9223372036854775807) = true := decide_eq_true c28
                                      try have c28b2 : (9223372036854775807 < x7_1.size + (rdOf ByteArray.empty l0 x9_1).size) = False := eq_false (Nat.not_lt.2 c28)
                                      by_cases c29 : (x7_1 ++ (rdOf ByteArray.empty l0 x9_1)).size + (Go.Proofs.YtkphlddgfmgogaaDoor.XW.arrAt ([(⟨#[10]⟩ : ByteArray), (⟨#[13]⟩ : ByteArray), (⟨#[13, 10]⟩ : ByteArray), (⟨#[194, 133]⟩ : ByteArray), (⟨#[226, 128, 168]⟩ : ByteArray), (⟨#[226, 128, 169]⟩ : ByteArray)] : List ByteArray) ((ji5) : Int).toNat (⟨#[]⟩ : ByteArray)).size ≤ 9223372036854775807
                                      · rw [if_pos c29] at H
                                        have c29b0 := eq_true c29
                                        have c29b1 : decide ((x7_1 ++ (rdOf ByteArray.empty l0 x9_1)).size + (Go.Proofs.YtkphlddgfmgogaaDoor.XW.arrAt ([(⟨#[10]⟩ : ByteArray), (⟨#[13]⟩ : ByteArray), (⟨#[13, 10]⟩ : ByteArray), (⟨#[194, 133]⟩ : ByteArray), (⟨#[226, 128, 168]⟩ : ByteArray), (⟨#[226, 128, 169]⟩ : ByteArray)] : List ByteArray) ((ji5) : Int).toNat (⟨#[]⟩ : ByteArray)).size ≤ 9223372036854775807) = true := decide_eq_true c29
                                        try have c29b2 : (9223372036854775807 < (x7_1 ++ (rdOf ByteArray.empty l0 x9_1)).size + (Go.Proofs.YtkphlddgfmgogaaDoor.XW.arrAt ([(⟨#[10]⟩ : ByteArray), (⟨#[13]⟩ : ByteArray), (⟨#[13, 10]⟩ : ByteArray), (⟨#[194, 133]⟩ : ByteArray), (⟨#[226, 128, 168]⟩ : ByteArray), (⟨#[226, 128, 169]⟩ : ByteArray)] : List ByteArray) ((ji5) : Int).toNat (⟨#[]⟩ : ByteArray)).size) = False := eq_false (Nat.not_lt.2 c29)
                                        try have c29b3 : (9223372036854775807 < x7_1.size + rdOf ByteArray.empty l0 x9_1.size + Go.Proofs.YtkphlddgfmgogaaDoor.XW.arrAt ([(⟨#[10]⟩ : ByteArray), (⟨#[13]⟩ : ByteArray), (⟨#[13, 10]⟩ : ByteArray), (⟨#[194, 133]⟩ : ByteArray), (⟨#[226, 128, 168]⟩ : ByteArray), (⟨#[226, 128, 169]⟩ : ByteArray)] : List ByteArray) ((ji5) : Int).toNat (⟨#[]⟩ : ByteArray).size) = False := eq_false (Nat.not_lt.2 (by have z_ := c29; simp only [ByteArray.size_append] at z_; exact z_))
                                        have H' := Aside0.mk H
                                        clear H
                                        have p151 : 0 ≤ (x9_1 : Int) := of_decide_eq_true (by first | (with_reducible assumption) | assumption)
                                        have q151 : x9_1 < (l0.length : Int) := of_decide_eq_true (by first | (with_reducible assumption) | assumption)
                                        obtain ⟨ad151, e151, hx151_0⟩ := Kd.at_string HR0.out x9_1 p151 q151
                                        cases e151
                                        replace hx151_0 := (HB.out.cell (World.block_lt_of_cell? w _ hx151_0)).trans hx151_0
                                        replace p151 := eq_true p151
                                        replace q151 := eq_true q151
                                        try go_wp2
                                        have n0_ := Aside0.mk (Kd.R_drew HO_8.out)
                                        have n1_ := Aside0.mk (blk_drew BK147.out)
                                        have n2_ := Aside0.mk (below_drew1 HB.out)
                                        clear HO_8
                                        clear BK147
                                        clear HB
                                        have HO_8 := n0_
                                        have BK147 := n1_
                                        have HB := n2_
                                        clear n0_ n1_ n2_
                                        have p154 : 0 ≤ (x9_1 : Int) := of_decide_eq_true (by first | (with_reducible assumption) | assumption)
                                        have q154 : x9_1 < (l0.length : Int) := of_decide_eq_true (by first | (with_reducible assumption) | assumption)
                                        obtain ⟨ad154, e154, hx154_0⟩ := Kd.at_string HR0.out x9_1 p154 q154
                                        have hw154_0 := hx154_0
                                        obtain rfl : ad151 = ad154 := (by injection e154)
                                        replace hx154_0 := (HB.out.cell (World.block_lt_of_cell? w _ hx154_0)).trans hx154_0
                                        replace p154 := eq_true p154
                                        replace q154 := eq_true q154
                                        have p155 : 0 ≤ (x9_1 : Int) := of_decide_eq_true (by first | (with_reducible assumption) | assumption)
                                        have q155 : x9_1 < (l0.length : Int) := of_decide_eq_true (by first | (with_reducible assumption) | assumption)
                                        obtain ⟨ad155, e155, hx155_0⟩ := Kd.at_string HR0.out x9_1 p155 q155
                                        have hw155_0 := hx155_0
                                        obtain rfl : ad151 = ad155 := (by injection e155)
                                        replace hx155_0 := (HB.out.cell (World.block_lt_of_cell? w _ hx155_0)).trans hx155_0
                                        replace p155 := eq_true p155
                                        replace q155 := eq_true q155
                                        refine start_ (n := 26) (S := fun w' => w'.cell? (ad151.add (x9_1).toNat) = some (.string (rdOf ByteArray.empty l0 x9_1)) ∧ w'.cell? (ad151.add (x9_1).toNat) = some (.string (rdOf ByteArray.empty l0 x9_1))) (ds := []) #[false, false, false, false, false, false, false, false, false, false, false, false, false, false, false, false, false, false, false, false, false, false, false, false, false, false] (by kernel_rfl) rfl rfl ⟨((HB.out.cell (World.block_lt_of_cell? w _ hw154_0)).trans hw154_0), ((HB.out.cell (World.block_lt_of_cell? w _ hw155_0)).trans hw155_0)⟩ (fun hHeld => ?_); refine with_tabW targumlaw2_BrkJoined.tab17 targumlaw2_BrkJoined.bits17 (fun HT_ HW_ => ?_)
                                        generalize wr.drew = w30 at HO_8 BK147 HB hx154_0 hx155_0 hHeld ⊢
                                        refine pure_ (i := 0) (N := some 58) (v := ?_) (a' := ?_) #[true, false, false, false, false, false, false, false, false, false, false, false, false, false, false, false, false, false, false, false, false, false, false, false, false, false] rfl rfl (any_of HT_.out (by kernel_rfl)) (fun _ _ _ h => h) (Or.inl ⟨by rfl, ?_⟩) ?_ ?_
                                        rotate_left
                                        · intro w'
                                          go_simp
                                          with_reducible rfl
                                        rotate_left
                                        · simp only [Act.put, List.setIfInBounds_toArray, List.set_cons_zero, List.set_cons_succ, i64_w, i32_w]
                                          rfl
                                        refine pure_ (i := 1) (N := some 59) (v := ?_) (a' := ?_) #[true, true, false, false, false, false, false, false, false, false, false, false, false, false, false, false, false, false, false, false, false, false, false, false, false, false] rfl rfl (any_of HT_.out (by kernel_rfl)) (fun _ _ _ h => h) (Or.inl ⟨by rfl, ?_⟩) ?_ ?_
                                        rotate_left
                                        · intro w'
                                          go_simp
                                          with_reducible rfl
                                        rotate_left
                                        · simp only [Act.put, List.setIfInBounds_toArray, List.set_cons_zero, List.set_cons_succ, i64_w, i32_w]
                                          rfl
                                        refine pure_ (i := 2) (N := some 60) (v := ?_) (a' := ?_) #[true, true, true, false, false, false, false, false, false, false, false, false, false, false, false, false, false, false, false, false, false, false, false, false, false, false] rfl rfl (any_of HT_.out (by kernel_rfl)) (fun _ _ _ h => h) (Or.inl ⟨by rfl, ?_⟩) ?_ ?_
                                        rotate_left
                                        · intro w'
                                          go_simp
                                          with_reducible rfl
                                        rotate_left
                                        · simp only [Act.put, List.setIfInBounds_toArray, List.set_cons_zero, List.set_cons_succ, i64_w, i32_w]
                                          rfl
                                        refine pure_ (i := 3) (N := some 61) (v := ?_) (a' := ?_) #[true, true, true, true, false, false, false, false, false, false, false, false, false, false, false, false, false, false, false, false, false, false, false, false, false, false] rfl rfl (any_of HT_.out (by kernel_rfl)) (fun _ _ _ h => h) (Or.inl ⟨by rfl, ?_⟩) ?_ ?_
                                        rotate_left
                                        · intro w'
                                          go_simp
                                          with_reducible rfl
                                        rotate_left
                                        · simp only [Act.put, List.setIfInBounds_toArray, List.set_cons_zero, List.set_cons_succ, i64_w, i32_w]
                                          rfl
                                        refine pure_ (i := 4) (N := some 62) (v := ?_) (a' := ?_) #[true, true, true, true, true, false, false, false, false, false, false, false, false, false, false, false, false, false, false, false, false, false, false, false, false, false] rfl rfl (any_of HT_.out (by kernel_rfl)) (fun _ _ _ h => h) (Or.inl ⟨by rfl, ?_⟩) ?_ ?_
                                        rotate_left
                                        · intro w'
                                          go_simp
                                          with_reducible rfl
                                        rotate_left
                                        · simp only [Act.put, List.setIfInBounds_toArray, List.set_cons_zero, List.set_cons_succ, i64_w, i32_w]
                                          rfl
                                        refine pure_ (i := 5) (N := some 63) (v := ?_) (a' := ?_) #[true, true, true, true, true, true, false, false, false, false, false, false, false, false, false, false, false, false, false, false, false, false, false, false, false, false] rfl rfl (any_of HT_.out (by kernel_rfl)) (fun _ _ _ h => h) (Or.inl ⟨by rfl, ?_⟩) ?_ ?_
                                        rotate_left
                                        · intro w'
                                          go_simp
                                          with_reducible rfl
                                        rotate_left
                                        · simp only [Act.put, List.setIfInBounds_toArray, List.set_cons_zero, List.set_cons_succ, i64_w, i32_w]
                                          rfl
                                        refine pure_ (i := 6) (N := some 64) (v := ?_) (a' := ?_) #[true, true, true, true, true, true, true, false, false, false, false, false, false, false, false, false, false, false, false, false, false, false, false, false, false, false] rfl rfl (any_of HT_.out (by kernel_rfl)) (fun _ _ _ h => h) (Or.inl ⟨by rfl, ?_⟩) ?_ ?_
                                        rotate_left
                                        · intro w'
                                          go_simp
                                          with_reducible rfl
                                        rotate_left
                                        · simp only [Act.put, List.setIfInBounds_toArray, List.set_cons_zero, List.set_cons_succ, i64_w, i32_w]
                                          rfl
                                        refine pure_ (i := 7) (N := some 65) (v := ?_) (a' := ?_) #[true, true, true, true, true, true, true, true, false, false, false, false, false, false, false, false, false, false, false, false, false, false, false, false, false, false] rfl rfl (any_of HT_.out (by kernel_rfl)) (fun _ _ _ h => h) (Or.inl ⟨by rfl, ?_⟩) ?_ ?_
                                        rotate_left
                                        · intro w'
                                          go_simp
                                          with_reducible rfl
                                        rotate_left
                                        · simp only [Act.put, List.setIfInBounds_toArray, List.set_cons_zero, List.set_cons_succ, i64_w, i32_w]
                                          rfl
                                        refine pure_ (i := 11) (N := some 69) (v := ?_) (a' := ?_) #[true, true, true, true, true, true, true, true, false, false, false, true, false, false, false, false, false, false, false, false, false, false, false, false, false, false] rfl rfl (any_of HT_.out (by kernel_rfl)) (fun _ _ _ h => h) (Or.inl ⟨by rfl, ?_⟩) ?_ ?_
                                        rotate_left
                                        · intro w'
                                          go_simp
                                          with_reducible rfl
                                        rotate_left
                                        · simp only [Act.put, List.setIfInBounds_toArray, List.set_cons_zero, List.set_cons_succ, i64_w, i32_w]
                                          rfl
                                        refine pure_ (i := 12) (N := some 70) (v := ?_) (a' := ?_) #[true, true, true, true, true, true, true, true, false, false, false, true, true, false, false, false, false, false, false, false, false, false, false, false, false, false] rfl rfl (any_of HT_.out (by kernel_rfl)) (fun _ _ _ h => h) (Or.inl ⟨by rfl, ?_⟩) ?_ ?_
                                        rotate_left
                                        · intro w'
                                          go_simp
                                          with_reducible rfl
                                        rotate_left
                                        · simp only [Act.put, List.setIfInBounds_toArray, List.set_cons_zero, List.set_cons_succ, i64_w, i32_w]
                                          rfl
                                        refine pure_ (i := 13) (N := some 71) (v := ?_) (a' := ?_) #[true, true, true, true, true, true, true, true, false, false, false, true, true, true, false, false, false, false, false, false, false, false, false, false, false, false] rfl rfl (any_of HT_.out (by kernel_rfl)) (fun _ _ _ h => h) (Or.inl ⟨by rfl, ?_⟩) ?_ ?_
                                        rotate_left
                                        · intro w'
                                          go_simp
                                          with_reducible rfl
                                        rotate_left
                                        · simp only [Act.put, List.setIfInBounds_toArray, List.set_cons_zero, List.set_cons_succ, i64_w, i32_w]
                                          rfl
                                        refine pure_ (i := 14) (N := some 72) (v := ?_) (a' := ?_) #[true, true, true, true, true, true, true, true, false, false, false, true, true, true, true, false, false, false, false, false, false, false, false, false, false, false] rfl rfl (any_of HT_.out (by kernel_rfl)) (fun _ _ _ h => h) (Or.inl ⟨by rfl, ?_⟩) ?_ ?_
                                        rotate_left
                                        · intro w'
                                          go_simp
                                          with_reducible rfl
                                        rotate_left
                                        · simp only [Act.put, List.setIfInBounds_toArray, List.set_cons_zero, List.set_cons_succ, i64_w, i32_w]
                                          rfl
                                        refine pure_ (i := 15) (N := some 73) (v := ?_) (a' := ?_) #[true, true, true, true, true, true, true, true, false, false, false, true, true, true, true, true, false, false, false, false, false, false, false, false, false, false] rfl rfl (any_of HT_.out (by kernel_rfl)) (fun _ _ _ h => h) (Or.inl ⟨by rfl, ?_⟩) ?_ ?_
                                        rotate_left
                                        · intro w'
                                          go_simp
                                          with_reducible rfl
                                        rotate_left
                                        · simp only [Act.put, List.setIfInBounds_toArray, List.set_cons_zero, List.set_cons_succ, i64_w, i32_w]
                                          rfl
                                        refine pure_ (i := 19) (N := some 77) (v := ?_) (a' := ?_) #[true, true, true, true, true, true, true, true, false, false, false, true, true, true, true, true, false, false, false, true, false, false, false, false, false, false] rfl rfl (any_of HT_.out (by kernel_rfl)) (fun _ _ _ h => h) (Or.inl ⟨by rfl, ?_⟩) ?_ ?_
                                        rotate_left
                                        · intro w'
                                          go_simp
                                          with_reducible rfl
                                        rotate_left
                                        · simp only [Act.put, List.setIfInBounds_toArray, List.set_cons_zero, List.set_cons_succ, i64_w, i32_w]
                                          rfl
                                        refine pure_ (i := 20) (N := some 78) (v := ?_) (a' := ?_) #[true, true, true, true, true, true, true, true, false, false, false, true, true, true, true, true, false, false, false, true, true, false, false, false, false, false] rfl rfl (any_of HT_.out (by kernel_rfl)) (fun _ _ _ h => h) (Or.inl ⟨by rfl, ?_⟩) ?_ ?_
                                        rotate_left
                                        · intro w'
                                          go_simp
                                          with_reducible rfl
                                        rotate_left
                                        · simp only [Act.put, List.setIfInBounds_toArray, List.set_cons_zero, List.set_cons_succ, i64_w, i32_w]
                                          rfl
                                        refine take_ (i := 8) (N := some 66) (v := ?_) (a' := ?_) #[true, true, true, true, true, true, true, true, true, false, false, true, true, true, true, true, false, false, false, true, true, false, false, false, false, false] rfl rfl (take_ofW HT_.out HW_.out (by kernel_rfl)) (fun _ _ _ h => h) (Or.inl ⟨by rfl, ?_⟩) hHeld ?_ ?_
                                        rotate_left
                                        · rintro w' ⟨s0, s1⟩
                                          go_simp
                                          with_reducible rfl
                                        rotate_left
                                        · simp only [Act.put, List.setIfInBounds_toArray, List.set_cons_zero, List.set_cons_succ, i64_w, i32_w]
                                          rfl
                                        refine pure_ (i := 9) (N := some 67) (v := ?_) (a' := ?_) #[true, true, true, true, true, true, true, true, true, true, false, true, true, true, true, true, false, false, false, true, true, false, false, false, false, false] rfl rfl (any_of HT_.out (by kernel_rfl)) (fun _ _ _ h => h) (Or.inl ⟨by rfl, ?_⟩) ?_ ?_
                                        rotate_left
                                        · intro w'
                                          go_simp
                                          with_reducible rfl
                                        rotate_left
                                        · simp only [Act.put, List.setIfInBounds_toArray, List.set_cons_zero, List.set_cons_succ, i64_w, i32_w]
                                          rfl
                                        refine pure_ (i := 10) (N := some 68) (v := ?_) (a' := ?_) #[true, true, true, true, true, true, true, true, true, true, true, true, true, true, true, true, false, false, false, true, true, false, false, false, false, false] rfl rfl (any_of HT_.out (by kernel_rfl)) (fun _ _ _ h => h) (Or.inl ⟨by rfl, ?_⟩) ?_ ?_
                                        rotate_left
                                        · intro w'
                                          go_simp
                                          with_reducible rfl
                                        rotate_left
                                        · simp only [Act.put, List.setIfInBounds_toArray, List.set_cons_zero, List.set_cons_succ, i64_w, i32_w]
                                          rfl
                                        refine take_ (i := 16) (N := some 74) (v := ?_) (a' := ?_) #[true, true, true, true, true, true, true, true, true, true, true, true, true, true, true, true, true, false, false, true, true, false, false, false, false, false] rfl rfl (take_ofW HT_.out HW_.out (by kernel_rfl)) (fun _ _ _ h => h) (Or.inl ⟨by rfl, ?_⟩) hHeld ?_ ?_
                                        rotate_left
                                        · rintro w' ⟨s0, s1⟩
                                          go_simp
                                          with_reducible rfl
                                        rotate_left
                                        · simp only [Act.put, List.setIfInBounds_toArray, List.set_cons_zero, List.set_cons_succ, i64_w, i32_w]
                                          rfl
                                        refine pure_ (i := 17) (N := some 75) (v := ?_) (a' := ?_) #[true, true, true, true, true, true, true, true, true, true, true, true, true, true, true, true, true, true, false, true, true, false, false, false, false, false] rfl rfl (any_of HT_.out (by kernel_rfl)) (fun _ _ _ h => h) (Or.inl ⟨by rfl, ?_⟩) ?_ ?_
                                        rotate_left
                                        · intro w'
                                          go_simp
                                          with_reducible rfl
                                        rotate_left
                                        · simp only [Act.put, List.setIfInBounds_toArray, List.set_cons_zero, List.set_cons_succ, i64_w, i32_w]
                                          rfl
                                        refine pure_ (i := 18) (N := some 76) (v := ?_) (a' := ?_) #[true, true, true, true, true, true, true, true, true, true, true, true, true, true, true, true, true, true, true, true, true, false, false, false, false, false] rfl rfl (any_of HT_.out (by kernel_rfl)) (fun _ _ _ h => h) (Or.inl ⟨by rfl, ?_⟩) ?_ ?_
                                        rotate_left
                                        · intro w'
                                          go_simp
                                          with_reducible rfl
                                        rotate_left
                                        · simp only [Act.put, List.setIfInBounds_toArray, List.set_cons_zero, List.set_cons_succ, i64_w, i32_w]
                                          rfl
                                        refine pure_ (i := 21) (N := some 79) (v := ?_) (a' := ?_) #[true, true, true, true, true, true, true, true, true, true, true, true, true, true, true, true, true, true, true, true, true, true, false, false, false, false] rfl rfl (any_of HT_.out (by kernel_rfl)) (fun _ _ _ h => h) (Or.inl ⟨by rfl, ?_⟩) ?_ ?_
                                        rotate_left
                                        · intro w'
                                          go_simp
                                          with_reducible rfl
                                        rotate_left
                                        · simp only [Act.put, List.setIfInBounds_toArray, List.set_cons_zero, List.set_cons_succ, i64_w, i32_w]
                                          rfl
                                        refine pure_ (i := 22) (N := some 80) (v := ?_) (a' := ?_) #[true, true, true, true, true, true, true, true, true, true, true, true, true, true, true, true, true, true, true, true, true, true, true, false, false, false] rfl rfl (any_of HT_.out (by kernel_rfl)) (fun _ _ _ h => h) (Or.inl ⟨by rfl, ?_⟩) ?_ ?_
                                        rotate_left
                                        · intro w'
                                          go_simp
                                          with_reducible rfl
                                        rotate_left
                                        · simp only [Act.put, List.setIfInBounds_toArray, List.set_cons_zero, List.set_cons_succ, i64_w, i32_w]
                                          rfl
                                        refine one_ (i := 23) (N := some 81) #[true, true, true, true, true, true, true, true, true, true, true, true, true, true, true, true, true, true, true, true, true, true, true, true, false, false] rfl rfl (one_of HT_.out (by kernel_rfl)) (by decide) (fun K hK => ?_)
                                        refine value_ (w1 := ?_) (v := ?_) (by rfl) rfl ?_ ?_
                                        rotate_left 2
                                        · go_simp
                                          constructor
                                          · rfl
                                          · rfl
                                        refine hK.out _ _ ⟨(World.cell?_alloc_lt _ _ _ (World.block_lt_of_cell? _ _ (((HB.out.cell (World.block_lt_of_cell? w _ hw154_0)).trans hw154_0)))).trans (((HB.out.cell (World.block_lt_of_cell? w _ hw154_0)).trans hw154_0)), (World.cell?_alloc_lt _ _ _ (World.block_lt_of_cell? _ _ (((HB.out.cell (World.block_lt_of_cell? w _ hw155_0)).trans hw155_0)))).trans (((HB.out.cell (World.block_lt_of_cell? w _ hw155_0)).trans hw155_0))⟩ (fun hHeld => ?_)
                                        clear hK K
                                        refine norm_ (a' := ?_) ?_ ?_
                                        rotate_left
                                        · show Act.put _ (some 81) _ = _
                                          simp only [Act.put, List.setIfInBounds_toArray, List.set_cons_zero, List.set_cons_succ, i64_w, i32_w]
                                          rfl
                                        refine one_ (i := 24) (N := some 82) #[true, true, true, true, true, true, true, true, true, true, true, true, true, true, true, true, true, true, true, true, true, true, true, true, true, false] rfl rfl (one_of HT_.out (by kernel_rfl)) (by decide) (fun K hK => ?_)
                                        refine Kd.R_append_step k27 (w0 := w) w.heap.size (by rfl) (.tmp 58) (.tmp 81) 24 27 (.agg #[(.int .i64 0), (.int .i64 0), (.int .i64 0)]) 24 rfl Tryd.underlying24 info27 rfl (by decide) (by omega) u8 x8_1 (⟨(x7_1.size : Int), wrap64 ((x7_1.size : Int) + ((rdOf ByteArray.empty l0 x9_1).size : Int)), wrap64 ((wrap64 ((x7_1.size : Int) + ((rdOf ByteArray.empty l0 x9_1).size : Int))) + ((Go.Proofs.YtkphlddgfmgogaaDoor.XW.arrAt ([(⟨#[10]⟩ : ByteArray), (⟨#[13]⟩ : ByteArray), (⟨#[13, 10]⟩ : ByteArray), (⟨#[194, 133]⟩ : ByteArray), (⟨#[226, 128, 168]⟩ : ByteArray), (⟨#[226, 128, 169]⟩ : ByteArray)] : List ByteArray) ((ji5) : Int).toNat (⟨#[]⟩ : ByteArray)).size : Int))⟩ : S27) [.int .i64 (x7_1.size : Int), .int .i64 (wrap64 ((x7_1.size : Int) + ((rdOf ByteArray.empty l0 x9_1).size : Int))), .int .i64 (wrap64 ((wrap64 ((x7_1.size : Int) + ((rdOf ByteArray.empty l0 x9_1).size : Int))) + ((Go.Proofs.YtkphlddgfmgogaaDoor.XW.arrAt ([(⟨#[10]⟩ : ByteArray), (⟨#[13]⟩ : ByteArray), (⟨#[13, 10]⟩ : ByteArray), (⟨#[194, 133]⟩ : ByteArray), (⟨#[226, 128, 168]⟩ : ByteArray), (⟨#[226, 128, 169]⟩ : ByteArray)] : List ByteArray) ((ji5) : Int).toNat (⟨#[]⟩ : ByteArray)).size : Int)))] (fun _ => True) (fun _ => False) rfl rfl ?aP (fun _ hk => hk.elim) ?aF ?aO ?aB ?aS ?aL ?_
                                        (case aP => exact k27_mkM _ _ _ (⟨(x7_1.size : Int), wrap64 ((x7_1.size : Int) + ((rdOf ByteArray.empty l0 x9_1).size : Int)), wrap64 ((wrap64 ((x7_1.size : Int) + ((rdOf ByteArray.empty l0 x9_1).size : Int))) + ((Go.Proofs.YtkphlddgfmgogaaDoor.XW.arrAt ([(⟨#[10]⟩ : ByteArray), (⟨#[13]⟩ : ByteArray), (⟨#[13, 10]⟩ : ByteArray), (⟨#[194, 133]⟩ : ByteArray), (⟨#[226, 128, 168]⟩ : ByteArray), (⟨#[226, 128, 169]⟩ : ByteArray)] : List ByteArray) ((ji5) : Int).toNat (⟨#[]⟩ : ByteArray)).size : Int))⟩ : S27))
                                        (case aB => exact (by repeat (first | (with_reducible first | exact HB.out | apply below_alloc | apply pw_below_drewN | apply below_drew1 | refine below_set ?_ GE147.out) | exact HB.out)))
                                        (case aF => exact (fun _ _ => trivial))
                                        (case aO => exact (by (with_reducible repeat (first | apply Kd.R_alloc | apply Kd.R_drewN | apply Kd.R_drew)); exact HO_8.out))
                                        (case aS => exact (below_size (by repeat (first | (with_reducible first | exact HB.out | apply below_alloc | apply pw_below_drewN | apply below_drew1 | refine below_set ?_ GE147.out) | exact HB.out))))
                                        (case aL => have := LMc27.out; omega)
                                        intro v157 w31 ho hb hg hat
                                        rw [← Ny156.out] at ho
                                        have n0_ := Aside0.mk (blk_grown (g := gb147) (o := .cells #[.string (⟨#[10]⟩ : ByteArray), .string (⟨#[13]⟩ : ByteArray), .string (⟨#[13, 10]⟩ : ByteArray), .string (⟨#[194, 133]⟩ : ByteArray), .string (⟨#[226, 128, 168]⟩ : ByteArray), .string (⟨#[226, 128, 169]⟩ : ByteArray)] 33 (0, 0)) (by (with_reducible repeat (first | refine blk_drewN ?_ _ | refine blk_drew ?_ | refine blk_alloc ?_ _)); exact BK147.out) hg (Kd.R_ne HO_8.out BK147.out (by decide)))
                                        have n1_ := Aside0.mk (hb)
                                        have n2_ := Aside0.mk (ho)
                                        clear BK147
                                        clear HB
                                        clear HO_8
                                        have BK147 := n0_
                                        have HB := n1_
                                        have HO158 := n2_
                                        clear n0_ n1_ n2_
                                        clear ho hb hg hat
                                        refine hK.out _ _ ⟨((HB.out.cell (World.block_lt_of_cell? w _ hw154_0)).trans hw154_0), ((HB.out.cell (World.block_lt_of_cell? w _ hw155_0)).trans hw155_0)⟩ (fun hHeld => ?_)
                                        clear hK K
                                        refine norm_ (a' := ?_) ?_ ?_
                                        rotate_left
                                        · show Act.put _ (some 82) _ = _
                                          simp only [Act.put, List.setIfInBounds_toArray, List.set_cons_zero, List.set_cons_succ, i64_w, i32_w]
                                          rfl
                                        refine pure_ (i := 25) (N := some 8) (v := ?_) (a' := ?_) #[true, true, true, true, true, true, true, true, true, true, true, true, true, true, true, true, true, true, true, true, true, true, true, true, true, true] rfl rfl (any_of HT_.out (by kernel_rfl)) (fun _ _ _ h => h) (Or.inl ⟨by rfl, ?_⟩) ?_ ?_
                                        rotate_left
                                        · intro w'
                                          go_simp
                                          with_reducible rfl
                                        rotate_left
                                        · simp only [Act.put, List.setIfInBounds_toArray, List.set_cons_zero, List.set_cons_succ, i64_w, i32_w]
                                          rfl
                                        refine done_ (done_of HT_.out (by kernel_rfl)) ?_
                                        have p159 : 0 ≤ (x9_1 : Int) := of_decide_eq_true (by first | (with_reducible assumption) | assumption)
                                        have q159 : x9_1 < (l0.length : Int) := of_decide_eq_true (by first | (with_reducible assumption) | assumption)
                                        obtain ⟨ad159, e159, hx159_0⟩ := Kd.at_string HR0.out x9_1 p159 q159
                                        obtain rfl : ad151 = ad159 := (by injection e159)
                                        replace hx159_0 := (HB.out.cell (World.block_lt_of_cell? w _ hx159_0)).trans hx159_0
                                        replace p159 := eq_true p159
                                        replace q159 := eq_true q159
                                        try go_wp2
                                        go_roundg k4
                                        case measure => have := HK1.out; have := HJ12.out; have := HJ15.out; have := HK4.out; omega
                                        case rel => exact ⟨((x7_1 ++ (rdOf ByteArray.empty l0 x9_1)) ++ (Go.Proofs.YtkphlddgfmgogaaDoor.XW.arrAt ([(⟨#[10]⟩ : ByteArray), (⟨#[13]⟩ : ByteArray), (⟨#[13, 10]⟩ : ByteArray), (⟨#[194, 133]⟩ : ByteArray), (⟨#[226, 128, 168]⟩ : ByteArray), (⟨#[226, 128, 169]⟩ : ByteArray)] : List ByteArray) ((ji5) : Int).toNat (⟨#[]⟩ : ByteArray))), (y156), (wrap64 (x9_1 + 1)), (by first | rfl | (simp; done) | (simp only [← hji5] <;> (first | rfl | simp)) | (simp [*]; done)), (by first | rfl | (simp; done) | (simp [*]; done) | (simp [wrap64]; done)), H', ⟨by have := HK1.out; have := HJ12.out; have := HJ15.out; have := HK4.out; omega⟩, ⟨by (with_reducible repeat (first | apply Kd.R_alloc | apply Kd.R_drewN | apply Kd.R_drew)); exact HO158.out⟩, ⟨by (with_reducible repeat (first | refine blk_drewN ?_ _ | refine blk_drew ?_ | refine blk_alloc ?_ _)); exact BK147.out⟩, ⟨by repeat (first | (with_reducible first | exact HB.out | apply below_alloc | apply pw_below_drewN | apply below_drew1 | refine below_set ?_ GE147.out) | exact HB.out)⟩⟩
                                      · rw [if_neg c29] at H
                                        exact absurd H (by simp)
                                    · rw [if_neg c28] at H
                                      exact absurd H (by simp)
                                  · rw [if_neg c27] at H
                                    exact absurd H (by simp)
                              · rw [if_neg c23] at H
                                exact absurd H (by simp)
                            · rw [if_neg c22] at H
                              exact absurd H (by simp)
                · replace c15 := Bool.eq_false_iff.mpr c15
                  subst c15
                  have H1 : ((brk_Lines.f kj12 11 x7_1).bind fun t160 => ((targumhelp_Lines.f kj12 t160 x8_1).bind fun t163 => (if t163 = true then (if (Int.tmod a1 6) > 2 then (some true) else ((brk_Lines.f kj12 12 x7_1).bind fun t164 => ((targumhelp_Lines.f kj12 t164 x8_1).bind fun t167 => (some t167)))) else (some false)))) = some r := by rw [if_neg (show ¬ (false = true) by decide)] at H; exact H
                  clear H
                  have H := H1
                  clear H1
                  replace H := Option.bind_eq_some_iff.mp H
                  obtain ⟨t160, A320, H⟩ := H
                  replace H : ((targumhelp_Lines.f kj12 t160 x8_1).bind fun t163 => (if t163 = true then (if (Int.tmod a1 6) > 2 then (some true) else ((brk_Lines.f kj12 12 x7_1).bind fun t164 => ((targumhelp_Lines.f kj12 t164 x8_1).bind fun t167 => (some t167)))) else (some false))) = some r := H
                  have A32 := Aside0.mk A320
                  clear A320
                  replace H := Option.bind_eq_some_iff.mp H
                  obtain ⟨t163, A330, H⟩ := H
                  replace H : (if t163 = true then (if (Int.tmod a1 6) > 2 then (some true) else ((brk_Lines.f kj12 12 x7_1).bind fun t164 => ((targumhelp_Lines.f kj12 t164 x8_1).bind fun t167 => (some t167)))) else (some false)) = some r := H
                  have A33 := Aside0.mk A330
                  clear A330
                  by_cases c34 : t163 = true
                  · subst c34
                    have H1 : (if (Int.tmod a1 6) > 2 then (some true) else ((brk_Lines.f kj12 12 x7_1).bind fun t164 => ((targumhelp_Lines.f kj12 t164 x8_1).bind fun t167 => (some t167)))) = some r := by rw [if_pos rfl] at H; exact H
                    clear H
                    have H := H1
                    clear H1
                    by_cases c35 : (Int.tmod a1 6) > 2
                    · rw [if_pos c35] at H
                      have c35b0 : decide (2 < (Int.tmod a1 6)) = true := decide_eq_true c35
                      try (have c35b0j := c35b0; rw [hji5] at c35b0j)
                      clear c35
                      obtain rfl := Option.some.inj H
                      go_wp2_with (first | ((with_reducible refine gate_callee (f := 11) rfl ?_); refine goesL_ (some 92) rfl rfl Tryd.func11 (by kernel_rfl) rfl #[.int .i64 11, .string x7_1] rfl (by (try simp only [List.map_toArray, List.map_cons, List.map_nil]); first | done | rfl | (simp only [List.length_drop, List.length_take]; rfl)) ?_; (with_reducible refine (brk_Lines.calls kj12 11 x7_1 t160 _ A32.out).mono ?_); rintro e w36 ⟨v161, rfl, ho0, hb⟩; refine ⟨_, rfl, ?_⟩; have n0_ := Aside0.mk (Kd.R_elder' (by (with_reducible repeat (first | apply Kd.R_alloc | apply Kd.R_drewN | apply Kd.R_drew)); exact HO_8.out) (Kd.R_base ho0) hb); have n1_ := Aside0.mk (Kd.R_lower (Kd.R_new' ho0 (Kd.R_lt (by (with_reducible repeat (first | apply Kd.R_alloc | apply Kd.R_drewN | apply Kd.R_drew)); exact HO_8.out))) (below_size (by repeat (first | (with_reducible first | exact HB.out | apply below_alloc | apply pw_below_drewN | apply below_drew1 | refine below_set ?_ GE147.out) | exact HB.out)))); have n2_ := Aside0.mk (blk_below (g := gb147) (o := .cells #[.string (⟨#[10]⟩ : ByteArray), .string (⟨#[13]⟩ : ByteArray), .string (⟨#[13, 10]⟩ : ByteArray), .string (⟨#[194, 133]⟩ : ByteArray), .string (⟨#[226, 128, 168]⟩ : ByteArray), .string (⟨#[226, 128, 169]⟩ : ByteArray)] 33 (0, 0)) (by (with_reducible repeat (first | refine blk_drewN ?_ _ | refine blk_drew ?_ | refine blk_alloc ?_ _)); exact BK147.out) hb); have n3_ := Aside0.mk (below_step (by repeat (first | (with_reducible first | exact HB.out | apply below_alloc | apply pw_below_drewN | apply below_drew1 | refine below_set ?_ GE147.out) | exact HB.out)) hb); clear HO_8; clear BK147; clear HB; have HO_8 := n0_; have HO162 := n1_; have BK147 := n2_; have HB := n3_; clear n0_ n1_ n2_ n3_; (try clear hb); (try clear hb2); (try clear hk); (try clear hi); (try clear ho0); obtain ⟨Ao37, co37, eo37⟩ := Kd.R_slice HO162.out; subst eo37; obtain ⟨Ao38, co38, eo38⟩ := Kd.R_slice HO_8.out; subst eo38) | ((with_reducible refine gate_callee (f := 13) rfl ?_); refine goesL_ (some 94) rfl rfl Tryd.func13 (by kernel_rfl) rfl #[.slice Ao37 t160.length co37, .slice Ao38 x8_1.length co38] rfl (by (try simp only [List.map_toArray, List.map_cons, List.map_nil]); first | done | rfl | (simp only [List.length_drop, List.length_take]; rfl)) ?_; (with_reducible refine (targumhelp_Lines.calls kj12 _ _ t160 _ _ x8_1 true _ ?side1 ?side2 ?side3 ?side4 A33.out).mono ?_); (case side1 => repeat (first | exact (Kd.R_reads' HO162.out).2.2 | (with_reducible refine Kd.C_alloc ?_ _) | (with_reducible refine Kd.C_drewN ?_ _) | (with_reducible refine Kd.C_drew ?_))); (case side2 => exact (Kd.R_reads' HO162.out).2.1); (case side3 => repeat (first | exact (Kd.R_reads' HO_8.out).2.2 | (with_reducible refine Kd.C_alloc ?_ _) | (with_reducible refine Kd.C_drewN ?_ _) | (with_reducible refine Kd.C_drew ?_))); (case side4 => exact (Kd.R_reads' HO_8.out).2.1); rintro e w' ⟨rfl, ⟨nd, rfl⟩⟩; refine ⟨_, rfl, ?_⟩))
                      go_ret
                      exact ⟨by first | rfl | (simp [errW_none, errW_some] <;> rfl) | (simp only [← hji5]; first | rfl | (simp [errW_none, errW_some] <;> rfl)) | (simp [*, errW_none, errW_some] <;> rfl), by repeat (first | (with_reducible first | exact HB.out | apply below_alloc | apply pw_below_drewN | apply below_drew1 | refine below_set ?_ GE147.out) | exact HB.out)⟩
                    · rw [if_neg c35] at H
                      have c35b0 : decide (2 < (Int.tmod a1 6)) = false := decide_eq_false c35
                      try (have c35b0j := c35b0; rw [hji5] at c35b0j)
                      clear c35
                      replace H := Option.bind_eq_some_iff.mp H
                      obtain ⟨t164, A390, H⟩ := H
                      replace H : ((targumhelp_Lines.f kj12 t164 x8_1).bind fun t167 => (some t167)) = some r := H
                      have A39 := Aside0.mk A390
                      clear A390
                      replace H := Option.bind_eq_some_iff.mp H
                      obtain ⟨t167, A400, H⟩ := H
                      replace H : (some t167) = some r := H
                      have A40 := Aside0.mk A400
                      clear A400
                      obtain rfl := Option.some.inj H
                      go_wp2_with (first | ((with_reducible refine gate_callee (f := 11) rfl ?_); refine goesL_ (some 92) rfl rfl Tryd.func11 (by kernel_rfl) rfl #[.int .i64 11, .string x7_1] rfl (by (try simp only [List.map_toArray, List.map_cons, List.map_nil]); first | done | rfl | (simp only [List.length_drop, List.length_take]; rfl)) ?_; (with_reducible refine (brk_Lines.calls kj12 11 x7_1 t160 _ A32.out).mono ?_); rintro e w41 ⟨v161, rfl, ho0, hb⟩; refine ⟨_, rfl, ?_⟩; have n0_ := Aside0.mk (Kd.R_elder' (by (with_reducible repeat (first | apply Kd.R_alloc | apply Kd.R_drewN | apply Kd.R_drew)); exact HO_8.out) (Kd.R_base ho0) hb); have n1_ := Aside0.mk (Kd.R_lower (Kd.R_new' ho0 (Kd.R_lt (by (with_reducible repeat (first | apply Kd.R_alloc | apply Kd.R_drewN | apply Kd.R_drew)); exact HO_8.out))) (below_size (by repeat (first | (with_reducible first | exact HB.out | apply below_alloc | apply pw_below_drewN | apply below_drew1 | refine below_set ?_ GE147.out) | exact HB.out)))); have n2_ := Aside0.mk (blk_below (g := gb147) (o := .cells #[.string (⟨#[10]⟩ : ByteArray), .string (⟨#[13]⟩ : ByteArray), .string (⟨#[13, 10]⟩ : ByteArray), .string (⟨#[194, 133]⟩ : ByteArray), .string (⟨#[226, 128, 168]⟩ : ByteArray), .string (⟨#[226, 128, 169]⟩ : ByteArray)] 33 (0, 0)) (by (with_reducible repeat (first | refine blk_drewN ?_ _ | refine blk_drew ?_ | refine blk_alloc ?_ _)); exact BK147.out) hb); have n3_ := Aside0.mk (below_step (by repeat (first | (with_reducible first | exact HB.out | apply below_alloc | apply pw_below_drewN | apply below_drew1 | refine below_set ?_ GE147.out) | exact HB.out)) hb); clear HO_8; clear BK147; clear HB; have HO_8 := n0_; have HO162 := n1_; have BK147 := n2_; have HB := n3_; clear n0_ n1_ n2_ n3_; (try clear hb); (try clear hb2); (try clear hk); (try clear hi); (try clear ho0); obtain ⟨Ao42, co42, eo42⟩ := Kd.R_slice HO162.out; subst eo42; obtain ⟨Ao43, co43, eo43⟩ := Kd.R_slice HO_8.out; subst eo43) | ((with_reducible refine gate_callee (f := 13) rfl ?_); refine goesL_ (some 94) rfl rfl Tryd.func13 (by kernel_rfl) rfl #[.slice Ao42 t160.length co42, .slice Ao43 x8_1.length co43] rfl (by (try simp only [List.map_toArray, List.map_cons, List.map_nil]); first | done | rfl | (simp only [List.length_drop, List.length_take]; rfl)) ?_; (with_reducible refine (targumhelp_Lines.calls kj12 _ _ t160 _ _ x8_1 true _ ?side1 ?side2 ?side3 ?side4 A33.out).mono ?_); (case side1 => repeat (first | exact (Kd.R_reads' HO162.out).2.2 | (with_reducible refine Kd.C_alloc ?_ _) | (with_reducible refine Kd.C_drewN ?_ _) | (with_reducible refine Kd.C_drew ?_))); (case side2 => exact (Kd.R_reads' HO162.out).2.1); (case side3 => repeat (first | exact (Kd.R_reads' HO_8.out).2.2 | (with_reducible refine Kd.C_alloc ?_ _) | (with_reducible refine Kd.C_drewN ?_ _) | (with_reducible refine Kd.C_drew ?_))); (case side4 => exact (Kd.R_reads' HO_8.out).2.1); rintro e w' ⟨rfl, ⟨nd, rfl⟩⟩; refine ⟨_, rfl, ?_⟩) | (go_at_call 11; (try (rename_i hK_; simp only [List.append] at hK_)); (with_reducible refine (brk_Lines.calls kj12 12 x7_1 t164 _ A39.out).mono ?_); rintro e w44 ⟨v165, rfl, ho0, hb⟩; have n0_ := Aside0.mk (Kd.R_elder' (by (with_reducible repeat (first | apply Kd.R_alloc | apply Kd.R_drewN | apply Kd.R_drew)); exact HO_8.out) (Kd.R_base ho0) hb); have n1_ := Aside0.mk (Kd.R_elder' (by (with_reducible repeat (first | apply Kd.R_alloc | apply Kd.R_drewN | apply Kd.R_drew)); exact HO162.out) (Kd.R_base ho0) hb); have n2_ := Aside0.mk (Kd.R_lower (Kd.R_new' (Kd.R_new' ho0 (Kd.R_lt (by (with_reducible repeat (first | apply Kd.R_alloc | apply Kd.R_drewN | apply Kd.R_drew)); exact HO_8.out))) (Kd.R_lt (by (with_reducible repeat (first | apply Kd.R_alloc | apply Kd.R_drewN | apply Kd.R_drew)); exact HO162.out))) (below_size (by repeat (first | (with_reducible first | exact HB.out | apply below_alloc | apply pw_below_drewN | apply below_drew1 | refine below_set ?_ GE147.out) | exact HB.out)))); have n3_ := Aside0.mk (blk_below (g := gb147) (o := .cells #[.string (⟨#[10]⟩ : ByteArray), .string (⟨#[13]⟩ : ByteArray), .string (⟨#[13, 10]⟩ : ByteArray), .string (⟨#[194, 133]⟩ : ByteArray), .string (⟨#[226, 128, 168]⟩ : ByteArray), .string (⟨#[226, 128, 169]⟩ : ByteArray)] 33 (0, 0)) (by (with_reducible repeat (first | refine blk_drewN ?_ _ | refine blk_drew ?_ | refine blk_alloc ?_ _)); exact BK147.out) hb); have n4_ := Aside0.mk (below_step (by repeat (first | (with_reducible first | exact HB.out | apply below_alloc | apply pw_below_drewN | apply below_drew1 | refine below_set ?_ GE147.out) | exact HB.out)) hb); clear HO_8; clear HO162; clear BK147; clear HB; have HO_8 := n0_; have HO162 := n1_; have HO166 := n2_; have BK147 := n3_; have HB := n4_; clear n0_ n1_ n2_ n3_ n4_; (try clear hb); (try clear hb2); (try clear hk); (try clear hi); (try clear ho0); obtain ⟨Ao45, co45, eo45⟩ := Kd.R_slice HO166.out; subst eo45) | (go_at_call 13; (try (rename_i hK_; simp only [List.append] at hK_)); (with_reducible refine (targumhelp_Lines.calls kj12 _ _ t164 _ _ x8_1 t167 _ ?side1 ?side2 ?side3 ?side4 A40.out).mono ?_); (case side1 => repeat (first | exact (Kd.R_reads' HO166.out).2.2 | (with_reducible refine Kd.C_alloc ?_ _) | (with_reducible refine Kd.C_drewN ?_ _) | (with_reducible refine Kd.C_drew ?_))); (case side2 => exact (Kd.R_reads' HO166.out).2.1); (case side3 => repeat (first | exact (Kd.R_reads' HO_8.out).2.2 | (with_reducible refine Kd.C_alloc ?_ _) | (with_reducible refine Kd.C_drewN ?_ _) | (with_reducible refine Kd.C_drew ?_))); (case side4 => exact (Kd.R_reads' HO_8.out).2.1); rintro e w' ⟨rfl, ⟨nd, rfl⟩⟩))
                      go_ret
                      exact ⟨by first | rfl | (simp [errW_none, errW_some] <;> rfl) | (simp only [← hji5]; first | rfl | (simp [errW_none, errW_some] <;> rfl)) | (simp [*, errW_none, errW_some] <;> rfl), by repeat (first | (with_reducible first | exact HB.out | apply below_alloc | apply pw_below_drewN | apply below_drew1 | refine below_set ?_ GE147.out) | exact HB.out)⟩
                  · replace c34 := Bool.eq_false_iff.mpr c34
                    subst c34
                    have H1 : (some false) = some r := by rw [if_neg (show ¬ (false = true) by decide)] at H; exact H
                    clear H
                    have H := H1
                    clear H1
                    obtain rfl := Option.some.inj H
                    go_wp2_with (first | ((with_reducible refine gate_callee (f := 11) rfl ?_); refine goesL_ (some 92) rfl rfl Tryd.func11 (by kernel_rfl) rfl #[.int .i64 11, .string x7_1] rfl (by (try simp only [List.map_toArray, List.map_cons, List.map_nil]); first | done | rfl | (simp only [List.length_drop, List.length_take]; rfl)) ?_; (with_reducible refine (brk_Lines.calls kj12 11 x7_1 t160 _ A32.out).mono ?_); rintro e w46 ⟨v161, rfl, ho0, hb⟩; refine ⟨_, rfl, ?_⟩; have n0_ := Aside0.mk (Kd.R_elder' (by (with_reducible repeat (first | apply Kd.R_alloc | apply Kd.R_drewN | apply Kd.R_drew)); exact HO_8.out) (Kd.R_base ho0) hb); have n1_ := Aside0.mk (Kd.R_lower (Kd.R_new' ho0 (Kd.R_lt (by (with_reducible repeat (first | apply Kd.R_alloc | apply Kd.R_drewN | apply Kd.R_drew)); exact HO_8.out))) (below_size (by repeat (first | (with_reducible first | exact HB.out | apply below_alloc | apply pw_below_drewN | apply below_drew1 | refine below_set ?_ GE147.out) | exact HB.out)))); have n2_ := Aside0.mk (blk_below (g := gb147) (o := .cells #[.string (⟨#[10]⟩ : ByteArray), .string (⟨#[13]⟩ : ByteArray), .string (⟨#[13, 10]⟩ : ByteArray), .string (⟨#[194, 133]⟩ : ByteArray), .string (⟨#[226, 128, 168]⟩ : ByteArray), .string (⟨#[226, 128, 169]⟩ : ByteArray)] 33 (0, 0)) (by (with_reducible repeat (first | refine blk_drewN ?_ _ | refine blk_drew ?_ | refine blk_alloc ?_ _)); exact BK147.out) hb); have n3_ := Aside0.mk (below_step (by repeat (first | (with_reducible first | exact HB.out | apply below_alloc | apply pw_below_drewN | apply below_drew1 | refine below_set ?_ GE147.out) | exact HB.out)) hb); clear HO_8; clear BK147; clear HB; have HO_8 := n0_; have HO162 := n1_; have BK147 := n2_; have HB := n3_; clear n0_ n1_ n2_ n3_; (try clear hb); (try clear hb2); (try clear hk); (try clear hi); (try clear ho0); obtain ⟨Ao47, co47, eo47⟩ := Kd.R_slice HO162.out; subst eo47; obtain ⟨Ao48, co48, eo48⟩ := Kd.R_slice HO_8.out; subst eo48) | ((with_reducible refine gate_callee (f := 13) rfl ?_); refine goesL_ (some 94) rfl rfl Tryd.func13 (by kernel_rfl) rfl #[.slice Ao47 t160.length co47, .slice Ao48 x8_1.length co48] rfl (by (try simp only [List.map_toArray, List.map_cons, List.map_nil]); first | done | rfl | (simp only [List.length_drop, List.length_take]; rfl)) ?_; (with_reducible refine (targumhelp_Lines.calls kj12 _ _ t160 _ _ x8_1 false _ ?side1 ?side2 ?side3 ?side4 A33.out).mono ?_); (case side1 => repeat (first | exact (Kd.R_reads' HO162.out).2.2 | (with_reducible refine Kd.C_alloc ?_ _) | (with_reducible refine Kd.C_drewN ?_ _) | (with_reducible refine Kd.C_drew ?_))); (case side2 => exact (Kd.R_reads' HO162.out).2.1); (case side3 => repeat (first | exact (Kd.R_reads' HO_8.out).2.2 | (with_reducible refine Kd.C_alloc ?_ _) | (with_reducible refine Kd.C_drewN ?_ _) | (with_reducible refine Kd.C_drew ?_))); (case side4 => exact (Kd.R_reads' HO_8.out).2.1); rintro e w' ⟨rfl, ⟨nd, rfl⟩⟩; refine ⟨_, rfl, ?_⟩))
                    go_ret
                    exact ⟨by first | rfl | (simp [errW_none, errW_some] <;> rfl) | (simp only [← hji5]; first | rfl | (simp [errW_none, errW_some] <;> rfl)) | (simp [*, errW_none, errW_some] <;> rfl), by repeat (first | (with_reducible first | exact HB.out | apply below_alloc | apply pw_below_drewN | apply below_drew1 | refine below_set ?_ GE147.out) | exact HB.out)⟩
      · rw [if_neg c7] at H
        exact absurd H (by simp)
    · rw [if_neg c6] at H
      exact absurd H (by simp)
  · replace c4 := Bool.eq_false_iff.mpr c4
    subst c4
    have H1 : (some false) = some r := by rw [if_neg (show ¬ (false = true) by decide)] at H; exact H
    clear H
    have H := H1
    clear H1
    obtain rfl := Option.some.inj H
    go_enter Tryd.func5, Tryd.ntmps5
    go_wp2_with (first | ((with_reducible refine gate_callee (f := 9) rfl ?_); refine goesL_ (some 11) rfl rfl Tryd.func9 (by kernel_rfl) rfl #[] rfl (by (try simp only [List.map_toArray, List.map_cons, List.map_nil]); first | done | rfl | (simp only [List.length_drop, List.length_take]; rfl)) ?_; (with_reducible refine (targumlaw2_known.calls k  false _ ?side1 A3.out).mono ?_); (case side1 => exact Utf8Tabs_below HG.out (by repeat (first | (with_reducible first | exact HB.out | apply below_alloc | apply pw_below_drewN | apply below_drew1) | exact HB.out))); rintro e w49 ⟨rfl, hb⟩; refine ⟨_, rfl, ?_⟩; have n0_ := Aside0.mk (below_step (by repeat (first | (with_reducible first | exact HB.out | apply below_alloc | apply pw_below_drewN | apply below_drew1) | exact HB.out)) hb); clear HB; have HB := n0_; clear n0_; (try clear hb); (try clear hb2); (try clear hk); (try clear hi)))
    go_ret
    exact ⟨by first | rfl | (simp [errW_none, errW_some] <;> rfl) | (simp [*, errW_none, errW_some] <;> rfl), by repeat (first | (with_reducible first | exact HB.out | apply below_alloc | apply pw_below_drewN | apply below_drew1) | exact HB.out)⟩

/-- The pure statement of targumlaw2_BrkJoined. -/
def targumlaw2_BrkJoined.Pure : Prop := ∀ (l0 : List ByteArray) (a1 : Int), l0.length ≤ maxLen → l0.length * 16 ≤ 140737488351232 → (∀ x ∈ l0, x.size ≤ 140737488351232) → (Lit.int .u8 a1).wf = true → ∃ k, targumlaw2_BrkJoined.f k l0 a1 = some true

end Go.Proofs.YtkphlddgfmgogaaDoor.PJ
