/- Written by this session's own program (xprint, made over the kit's print): Lean functions with the same answers as the Go functions, and the proofs of that. Not trusted: Lean checks it. -/
import Derived.Test.YtddaggnomcoejaaDoorPDx0
import Derived.Test.YtddaggnomcoejaaDoorPDx1
import Derived.Test.YtddaggnomcoejaaDoorPDx3
import Derived.Test.YtddaggnomcoejaaDoorPDx4
import Derived.Test.YtddaggnomcoejaaDoorPDx7
import Derived.Test.YtddaggnomcoejaaDoorPDx8
import Derived.Test.YtddaggnomcoejaaDoorPDx9
import Derived.Test.YtddaggnomcoejaaDoorXW
import Derived.Test.YtddaggnomcoejaaDoorPDx10m
import Derived.Test.YtddaggnomcoejaaDoorXW
namespace Go.Proofs.YtddaggnomcoejaaDoor.PD
open Go.Proofs.YtddaggnomcoejaaDoor.XW Go.RowKit Go.Proofs.YtddaggnomcoejaaDoorW.PrintWords Go.Proofs.YtddaggnomcoejaaDoorW.PrintLast Go.Proofs.YtddaggnomcoejaaDoorW.PrintMore
attribute [local go_sem] max2_int min2_int max_two min_two max_three min_three max_four min_four   -- for this text's walks alone
set_option linter.unusedVariables false
set_option linter.unusedSimpArgs false

attribute [local go_sem high] eqA40
/-! ### targumlaw5_DecTells: function 9 -/
def targumlaw5_DecTells.j0 : Nat → Bool → ByteArray → ByteArray → ByteArray → ByteArray → Bool → Int → Bool → ByteArray → ByteArray → Option (Bool)
 | 0, _, _, _, _, _, _, _, _, _, _ => none
 | k + 1, x1, x2, x3, x4, x5, x52, x231000, x231001, x231002, x231003 => if x52 = true then (some true) else ((dec_Make.f k x1 x2 x3 x4).bind fun bt232 => ((targumref4_Make.f k x1 x2 x3 x4).bind fun bt238 => ((dec_Parse.f k x5).bind fun bt244 => ((targumref4_Parse.f k x5).bind fun bt250 => ((dec_Good.f k x231000 x231001 x231002 x231003).bind fun t256 => ((targumref4_Dec.f k x231000 x231001 x231002 x231003).bind fun t257 => (if (t256 == t257) = true then ((dec_Print.f k x231000 x231001 x231002 x231003).bind fun t258 => ((targumref4_Print.f k x231000 x231001 x231002 x231003).bind fun t259 => (if t258.toList = t259.toList then (if (bt232.1 == bt238.1 && (bt232.2.1 == bt238.2.1 && (bt232.2.2.1.toList == bt238.2.2.1.toList && (bt232.2.2.2.1.toList == bt238.2.2.2.1.toList)))) = true then (if (bt232.2.2.2.2 == bt238.2.2.2.2) = true then (if (bt244.1 == bt250.1 && (bt244.2.1 == bt250.2.1 && (bt244.2.2.1.toList == bt250.2.2.1.toList && (bt244.2.2.2.1.toList == bt250.2.2.2.1.toList)))) = true then (if (bt244.2.2.2.2 == bt250.2.2.2.2) = true then ((dec_Print.f k bt232.1 bt232.2.1 bt232.2.2.1 bt232.2.2.2.1).bind fun t260 => ((targumref4_Print.f k bt238.1 bt238.2.1 bt238.2.2.1 bt238.2.2.2.1).bind fun t261 => (some (t260.toList == t261.toList)))) else (some false)) else (some false)) else (some false)) else (some false)) else (some false)))) else (some false))))))))
def targumlaw5_DecTells.f (k : Nat) (a0_0 : Int) (a0_1 : Bool) (a0_2 : ByteArray) (a0_3 : ByteArray) (a1 : Bool) (a2 : ByteArray) (a3 : ByteArray) (a4 : ByteArray) (a5 : ByteArray) : Option (Bool) := (targumlaw5_known.f k).bind fun t231 => (if t231 = true then (if (a0_2.size : Int) > 60 then (targumlaw5_DecTells.j0 k a1 a2 a3 a4 a5 true a0_0 a0_1 a0_2 a0_3) else (if (a0_3.size : Int) > 60 then (targumlaw5_DecTells.j0 k a1 a2 a3 a4 a5 true a0_0 a0_1 a0_2 a0_3) else (if (a2.size : Int) > 60 then (targumlaw5_DecTells.j0 k a1 a2 a3 a4 a5 true a0_0 a0_1 a0_2 a0_3) else (if (a3.size : Int) > 60 then (targumlaw5_DecTells.j0 k a1 a2 a3 a4 a5 true a0_0 a0_1 a0_2 a0_3) else (if (a4.size : Int) > 60 then (targumlaw5_DecTells.j0 k a1 a2 a3 a4 a5 true a0_0 a0_1 a0_2 a0_3) else (targumlaw5_DecTells.j0 k a1 a2 a3 a4 a5 (decide ((a5.size : Int) > 150)) a0_0 a0_1 a0_2 a0_3)))))) else (some false))
theorem targumlaw5_DecTells.mono_l : ∀ k, (∀ y0 y1 y2 y3 y4 y5 y6 y7 y8 y9, LeO (targumlaw5_DecTells.j0 k y0 y1 y2 y3 y4 y5 y6 y7 y8 y9) (targumlaw5_DecTells.j0 (k + 1) y0 y1 y2 y3 y4 y5 y6 y7 y8 y9))
 | 0 => fun _ _ _ _ _ _ _ _ _ _ r h => by simp [targumlaw5_DecTells.j0] at h
 | k + 1 => by
  have ih0 := targumlaw5_DecTells.mono_l k
  ·intro y0 y1 y2 y3 y4 y5 y6 y7 y8 y9
   unfold targumlaw5_DecTells.j0
   repeat' first
   | (with_reducible exact ih0 _ _ _ _ _ _ _ _ _ _)
   | (with_reducible exact dec_Good.mono _ _ _ _ _)
   | (with_reducible exact dec_Make.mono _ _ _ _ _)
   | (with_reducible exact dec_Parse.mono _ _)
   | (with_reducible exact dec_Print.mono _ _ _ _ _)
   | (with_reducible exact targumlaw5_known.mono _)
   | (with_reducible exact targumref4_Dec.mono _ _ _ _ _)
   | (with_reducible exact targumref4_Make.mono _ _ _ _ _)
   | (with_reducible exact targumref4_Parse.mono _ _)
   | (with_reducible exact targumref4_Print.mono _ _ _ _ _)
   | (with_reducible exact LeO.refl _)
   | (with_reducible exact LeO.none _)
   | (with_reducible refine LeO.ite ?_ ?_)
   | (with_reducible refine LeO.bind ?_ (fun _ => ?_))
   | exact ih0 _ _ _ _ _ _ _ _ _ _
   | exact dec_Good.mono _ _ _ _ _
   | exact dec_Make.mono _ _ _ _ _
   | exact dec_Parse.mono _ _
   | exact dec_Print.mono _ _ _ _ _
   | exact targumlaw5_known.mono _
   | exact targumref4_Dec.mono _ _ _ _ _
   | exact targumref4_Make.mono _ _ _ _ _
   | exact targumref4_Parse.mono _ _
   | exact targumref4_Print.mono _ _ _ _ _
   | exact LeO.none _
   | refine LeO.ite ?_ ?_
   | refine LeO.bind ?_ (fun _ => ?_)
theorem targumlaw5_DecTells.mono : ∀ a0 a1 a2 a3 a4 a5 a6 a7 a8 k, LeO (targumlaw5_DecTells.f k a0 a1 a2 a3 a4 a5 a6 a7 a8) (targumlaw5_DecTells.f (k + 1) a0 a1 a2 a3 a4 a5 a6 a7 a8) := by
 intro a0 a1 a2 a3 a4 a5 a6 a7 a8 k
 have ih0 := targumlaw5_DecTells.mono_l k
 unfold targumlaw5_DecTells.f
 repeat' first
   | (with_reducible exact ih0 _ _ _ _ _ _ _ _ _ _)
   | (with_reducible exact dec_Good.mono _ _ _ _ _)
   | (with_reducible exact dec_Make.mono _ _ _ _ _)
   | (with_reducible exact dec_Parse.mono _ _)
   | (with_reducible exact dec_Print.mono _ _ _ _ _)
   | (with_reducible exact targumlaw5_known.mono _)
   | (with_reducible exact targumref4_Dec.mono _ _ _ _ _)
   | (with_reducible exact targumref4_Make.mono _ _ _ _ _)
   | (with_reducible exact targumref4_Parse.mono _ _)
   | (with_reducible exact targumref4_Print.mono _ _ _ _ _)
   | (with_reducible exact LeO.refl _)
   | (with_reducible exact LeO.none _)
   | (with_reducible refine LeO.ite ?_ ?_)
   | (with_reducible refine LeO.bind ?_ (fun _ => ?_))
   | exact ih0 _ _ _ _ _ _ _ _ _ _
   | exact dec_Good.mono _ _ _ _ _
   | exact dec_Make.mono _ _ _ _ _
   | exact dec_Parse.mono _ _
   | exact dec_Print.mono _ _ _ _ _
   | exact targumlaw5_known.mono _
   | exact targumref4_Dec.mono _ _ _ _ _
   | exact targumref4_Make.mono _ _ _ _ _
   | exact targumref4_Parse.mono _ _
   | exact targumref4_Print.mono _ _ _ _ _
   | exact LeO.none _
   | refine LeO.ite ?_ ?_
   | refine LeO.bind ?_ (fun _ => ?_)
def targumlaw5_DecTells.T9 : Bool × List (List Nat × List Nat) := (true, [([], []), ([0], [0]), ([], []), ([2, 1], [2]), ([1, 3], [1, 3]), ([4, 3], [4]), ([5], [5]), ([6, 5, 5], [5, 6]), ([5], [5]), ([8, 7, 5], [5, 8]), ([7, 9, 5], [5, 7, 9]), ([5, 10], [5, 10]), ([11, 9], [11]), ([12], [12]), ([12], [12]), ([13, 14, 12], [12, 13, 14]), ([12, 15], [12, 15]), ([16, 12], [16]), ([17], [17]), ([17], [17]), ([18, 19, 17], [17, 18, 19]), ([17, 20], [17, 20]), ([21, 17], [21]), ([22], [22]), ([22], [22]), ([23, 24, 22], [22, 23, 24]), ([22, 25], [22, 25]), ([26, 22], [26]), ([27], [27]), ([27], [27]), ([28, 29, 27], [27, 28, 29]), ([27, 30], [27, 30]), ([31, 27], [31]), ([32], [32]), ([33, 32, 32], [32, 33]), ([32], [32]), ([35, 34, 32], [32, 35]), ([34, 36, 32], [32, 34, 36]), ([32, 37], [32, 37]), ([38, 36, 0, 1, 2, 3, 4, 5, 6, 7, 8, 9, 10, 11, 12, 13, 14, 15, 16, 17, 18, 19, 20, 21, 22, 23, 24, 25, 26, 27, 28, 29, 30, 31, 32, 33, 34, 35, 36, 37, 38], [38])])
def targumlaw5_DecTells.B9 : List Nat := [0, 1, 0, 7, 15, 31, 63, 127, 63, 511, 1023, 2047, 4095, 8191, 8191, 32767, 65535, 131071, 262143, 262143, 1048575, 2097151, 4194303, 8388607, 8388607, 33554431, 67108863, 134217727, 268435455, 268435455, 1073741823, 2147483647, 4294967295, 8589934591, 17179869183, 8589934591, 68719476735, 137438953471, 274877906943, 549755813887]
theorem targumlaw5_DecTells.tab9 : rtab .any (opsOf Tryd.f9 9) = targumlaw5_DecTells.T9 := by kernel_rfl
theorem targumlaw5_DecTells.bits9 : waitsOk targumlaw5_DecTells.T9.2 targumlaw5_DecTells.B9 = true := by kernel_rfl
set_option maxHeartbeats 8000000 in
set_option maxRecDepth 100000 in
theorem targumlaw5_DecTells.calls (k : Nat) (a0_0 : Int) (a0_1 : Bool) (a0_2 : ByteArray) (a0_3 : ByteArray) (a1 : Bool) (a2 : ByteArray) (a3 : ByteArray) (a4 : ByteArray) (a5 : ByteArray) (r : Bool) (w : World) (hG : Go.Proofs.YtddaggnomcoejaaDoor.PDT.Tabs w) (h : targumlaw5_DecTells.f k a0_0 a0_1 a0_2 a0_3 a1 a2 a3 a4 a5 = some r) :
  Calls Tryd.prog 9 #[.agg #[.int .i64 a0_0, .bool a0_1, .string a0_2, .string a0_3], .bool a1, .string a2, .string a3, .string a4, .string a5] w fun e w' => e = .returned (.bool r) ∧ Below w.heap.size w w' := by
 have hu40 := Tryd.underlying40
 have HG := Aside0.mk hG
 clear hG
 have HB := Aside0.mk (Below.refl w.heap.size w)
 have H : ((targumlaw5_known.f k).bind fun t231 => (if t231 = true then (if (a0_2.size : Int) > 60 then (targumlaw5_DecTells.j0 k a1 a2 a3 a4 a5 true a0_0 a0_1 a0_2 a0_3) else (if (a0_3.size : Int) > 60 then (targumlaw5_DecTells.j0 k a1 a2 a3 a4 a5 true a0_0 a0_1 a0_2 a0_3) else (if (a2.size : Int) > 60 then (targumlaw5_DecTells.j0 k a1 a2 a3 a4 a5 true a0_0 a0_1 a0_2 a0_3) else (if (a3.size : Int) > 60 then (targumlaw5_DecTells.j0 k a1 a2 a3 a4 a5 true a0_0 a0_1 a0_2 a0_3) else (if (a4.size : Int) > 60 then (targumlaw5_DecTells.j0 k a1 a2 a3 a4 a5 true a0_0 a0_1 a0_2 a0_3) else (targumlaw5_DecTells.j0 k a1 a2 a3 a4 a5 (decide ((a5.size : Int) > 150)) a0_0 a0_1 a0_2 a0_3)))))) else (some false))) = some r := h
 clear h
 replace H := Option.bind_eq_some_iff.mp H
 obtain ⟨t231, A70, H⟩ := H
 replace H : (if t231 = true then (if (a0_2.size : Int) > 60 then (targumlaw5_DecTells.j0 k a1 a2 a3 a4 a5 true a0_0 a0_1 a0_2 a0_3) else (if (a0_3.size : Int) > 60 then (targumlaw5_DecTells.j0 k a1 a2 a3 a4 a5 true a0_0 a0_1 a0_2 a0_3) else (if (a2.size : Int) > 60 then (targumlaw5_DecTells.j0 k a1 a2 a3 a4 a5 true a0_0 a0_1 a0_2 a0_3) else (if (a3.size : Int) > 60 then (targumlaw5_DecTells.j0 k a1 a2 a3 a4 a5 true a0_0 a0_1 a0_2 a0_3) else (if (a4.size : Int) > 60 then (targumlaw5_DecTells.j0 k a1 a2 a3 a4 a5 true a0_0 a0_1 a0_2 a0_3) else (targumlaw5_DecTells.j0 k a1 a2 a3 a4 a5 (decide ((a5.size : Int) > 150)) a0_0 a0_1 a0_2 a0_3)))))) else (some false)) = some r := H
 have A7 := Aside0.mk A70
 clear A70
 by_cases c8 : t231 = true
 ·subst c8
  have H1 : (if (a0_2.size : Int) > 60 then (targumlaw5_DecTells.j0 k a1 a2 a3 a4 a5 true a0_0 a0_1 a0_2 a0_3) else (if (a0_3.size : Int) > 60 then (targumlaw5_DecTells.j0 k a1 a2 a3 a4 a5 true a0_0 a0_1 a0_2 a0_3) else (if (a2.size : Int) > 60 then (targumlaw5_DecTells.j0 k a1 a2 a3 a4 a5 true a0_0 a0_1 a0_2 a0_3) else (if (a3.size : Int) > 60 then (targumlaw5_DecTells.j0 k a1 a2 a3 a4 a5 true a0_0 a0_1 a0_2 a0_3) else (if (a4.size : Int) > 60 then (targumlaw5_DecTells.j0 k a1 a2 a3 a4 a5 true a0_0 a0_1 a0_2 a0_3) else (targumlaw5_DecTells.j0 k a1 a2 a3 a4 a5 (decide ((a5.size : Int) > 150)) a0_0 a0_1 a0_2 a0_3)))))) = some r := by rw [if_pos rfl] at H; exact H
  clear H
  have H := H1
  clear H1
  have HC9 := Aside0.mk H
  clear H
  go_enter Tryd.func9, Tryd.ntmps9
  go_upto_region 3 with (first | ((with_reducible refine gate_dst (N := 6) rfl ?_); (try (refine gate_guard (by rfl) ?_; dsimp only)); refine box_event ?hg (N := 6) ?hd (cs := #[.int .i64 a0_0, .bool a0_1, .string a0_2, .string a0_3]) (t := 40) ?hr ?_; (case hd => rfl); (case hg => rfl); (case hr => first | (go_simp; done) | (go_simp; rfl)); intro gb230 hg w10 hbox hb; have n0_ := Aside0.mk (below_step bl hb); have n1_ := Aside0.mk (hbox); have n2_ := Aside0.mk ((by rw [hg]; exact (below_size bl) : w.heap.size ≤ gb230)); have n3_ := Aside0.mk ((by rw [hg]; exact (below_size bl) : w.heap.size ≤ gb230)); clear HB; have HB := n0_; have BK230 := n1_; have GW230 := n2_; have GE230 := n3_; clear n0_ n1_ n2_ n3_; clear hb hbox hg) | ((with_reducible refine gate_callee (f := 28) rfl ?_); refine goesL_ (some 21) rfl rfl Tryd.func28 (by kernel_rfl) rfl #[] rfl (by (try simp only [List.map_toArray, List.map_cons, List.map_nil]); first | done | rfl | (simp only [List.length_drop, List.length_take]; rfl)) ?_; (with_reducible refine (targumlaw5_known.calls k  true _ ?side1 A7.out).mono ?_); (case side1 => exact Go.Proofs.YtddaggnomcoejaaDoor.PDT.Tabs_below HG.out bl); rintro e w11 ⟨rfl, hb⟩; refine ⟨_, rfl, ?_⟩; have n0_ := Aside0.mk (blk_below (g := gb230) (o := .cells #[.int .i64 a0_0, .bool a0_1, .string a0_2, .string a0_3] 40 (0, 0)) bk hb); have n1_ := Aside0.mk (below_step bl hb); clear BK230; clear HB; have BK230 := n0_; have HB := n1_; clear n0_ n1_; (try clear hb); (try clear hb2); (try clear hk); (try clear hi)))
  (try simp only [Act.put, List.setIfInBounds_toArray, List.set_cons_zero, List.set_cons_succ])
  go_cut [52] (fun v52 wc => ∃ (kq : Nat) (x52_8 : Bool), v52 = .bool x52_8 ∧ Aside0 (targumlaw5_DecTells.j0 kq a1 a2 a3 a4 a5 x52_8 a0_0 a0_1 a0_2 a0_3 = some r) ∧ Aside0 (kq ≤ k) ∧ Aside0 (wc.heap[gb230]? = some (.cells #[.int .i64 a0_0, .bool a0_1, .string a0_2, .string a0_3] 40 (0, 0))) ∧ Aside0 (Below w.heap.size w wc))
  case first =>
   have H := HC9.out
   clear HC9
   by_cases c12 : (a0_2.size : Int) > 60
   ·rw [if_pos c12] at H
    have c12b0 : decide (60 < (a0_2.size : Int)) = true := decide_eq_true c12
    have c12b1 : decide (60 < a0_2.size) = true := decide_eq_true (by omega)
    clear c12
    (first | rw [c12b0] | (simp only [i64_w, i32_w]; rw [c12b0]) | skip)
    have H' := Aside0.mk H
    clear H
    have hcz13_0 : w11.cell? ⟨gb230, 0, none⟩ = some (.int .i64 a0_0) := (blk_cell BK230.out 0).trans rfl
    have hcz13_1 : w11.cell? ⟨gb230, 1, none⟩ = some (.bool a0_1) := (blk_cell BK230.out 1).trans rfl
    have hcz13_2 : w11.cell? ⟨gb230, 2, none⟩ = some (.string a0_2) := (blk_cell BK230.out 2).trans rfl
    have hcz13_3 : w11.cell? ⟨gb230, 3, none⟩ = some (.string a0_3) := (blk_cell BK230.out 3).trans rfl
    have hfz13_0 := blk_frozen BK230.out 0
    have hfz13_1 := blk_frozen BK230.out 1
    have hfz13_2 := blk_frozen BK230.out 2
    have hfz13_3 := blk_frozen BK230.out 3
    go_wp2
    go_meet
    case rel => exact ⟨_, (true), (by first | rfl | (simp; done) | (simp [*]; done) | (simp [wrap64]; done)), H', ⟨by first | omega | exact Nat.le_refl _⟩, ⟨by (with_reducible repeat (first | refine blk_drewN ?_ _ | refine blk_drew ?_ | refine blk_alloc ?_ _)); exact BK230.out⟩, ⟨bl⟩⟩
   ·rw [if_neg c12] at H
    have c12b0 : decide (60 < (a0_2.size : Int)) = false := decide_eq_false c12
    have c12b1 : decide (60 < a0_2.size) = false := decide_eq_false (by omega)
    clear c12
    (first | rw [c12b0] | (simp only [i64_w, i32_w]; rw [c12b0]) | skip)
    by_cases c14 : (a0_3.size : Int) > 60
    ·rw [if_pos c14] at H
     have c14b0 : decide (60 < (a0_3.size : Int)) = true := decide_eq_true c14
     have c14b1 : decide (60 < a0_3.size) = true := decide_eq_true (by omega)
     clear c14
     have H' := Aside0.mk H
     clear H
     have hcz15_0 : w11.cell? ⟨gb230, 0, none⟩ = some (.int .i64 a0_0) := (blk_cell BK230.out 0).trans rfl
     have hcz15_1 : w11.cell? ⟨gb230, 1, none⟩ = some (.bool a0_1) := (blk_cell BK230.out 1).trans rfl
     have hcz15_2 : w11.cell? ⟨gb230, 2, none⟩ = some (.string a0_2) := (blk_cell BK230.out 2).trans rfl
     have hcz15_3 : w11.cell? ⟨gb230, 3, none⟩ = some (.string a0_3) := (blk_cell BK230.out 3).trans rfl
     have hfz15_0 := blk_frozen BK230.out 0
     have hfz15_1 := blk_frozen BK230.out 1
     have hfz15_2 := blk_frozen BK230.out 2
     have hfz15_3 := blk_frozen BK230.out 3
     go_wp2
     go_meet
     case rel => exact ⟨_, (true), (by first | rfl | (simp; done) | (simp [*]; done) | (simp [wrap64]; done)), H', ⟨by first | omega | exact Nat.le_refl _⟩, ⟨by (with_reducible repeat (first | refine blk_drewN ?_ _ | refine blk_drew ?_ | refine blk_alloc ?_ _)); exact BK230.out⟩, ⟨bl⟩⟩
    ·rw [if_neg c14] at H
     have c14b0 : decide (60 < (a0_3.size : Int)) = false := decide_eq_false c14
     have c14b1 : decide (60 < a0_3.size) = false := decide_eq_false (by omega)
     clear c14
     by_cases c16 : (a2.size : Int) > 60
     ·rw [if_pos c16] at H
      have c16b0 : decide (60 < (a2.size : Int)) = true := decide_eq_true c16
      have c16b1 : decide (60 < a2.size) = true := decide_eq_true (by omega)
      clear c16
      have H' := Aside0.mk H
      clear H
      have hcz17_0 : w11.cell? ⟨gb230, 0, none⟩ = some (.int .i64 a0_0) := (blk_cell BK230.out 0).trans rfl
      have hcz17_1 : w11.cell? ⟨gb230, 1, none⟩ = some (.bool a0_1) := (blk_cell BK230.out 1).trans rfl
      have hcz17_2 : w11.cell? ⟨gb230, 2, none⟩ = some (.string a0_2) := (blk_cell BK230.out 2).trans rfl
      have hcz17_3 : w11.cell? ⟨gb230, 3, none⟩ = some (.string a0_3) := (blk_cell BK230.out 3).trans rfl
      have hfz17_0 := blk_frozen BK230.out 0
      have hfz17_1 := blk_frozen BK230.out 1
      have hfz17_2 := blk_frozen BK230.out 2
      have hfz17_3 := blk_frozen BK230.out 3
      go_wp2
      go_meet
      case rel => exact ⟨_, (true), (by first | rfl | (simp; done) | (simp [*]; done) | (simp [wrap64]; done)), H', ⟨by first | omega | exact Nat.le_refl _⟩, ⟨by (with_reducible repeat (first | refine blk_drewN ?_ _ | refine blk_drew ?_ | refine blk_alloc ?_ _)); exact BK230.out⟩, ⟨bl⟩⟩
     ·rw [if_neg c16] at H
      have c16b0 : decide (60 < (a2.size : Int)) = false := decide_eq_false c16
      have c16b1 : decide (60 < a2.size) = false := decide_eq_false (by omega)
      clear c16
      by_cases c18 : (a3.size : Int) > 60
      ·rw [if_pos c18] at H
       have c18b0 : decide (60 < (a3.size : Int)) = true := decide_eq_true c18
       have c18b1 : decide (60 < a3.size) = true := decide_eq_true (by omega)
       clear c18
       have H' := Aside0.mk H
       clear H
       have hcz19_0 : w11.cell? ⟨gb230, 0, none⟩ = some (.int .i64 a0_0) := (blk_cell BK230.out 0).trans rfl
       have hcz19_1 : w11.cell? ⟨gb230, 1, none⟩ = some (.bool a0_1) := (blk_cell BK230.out 1).trans rfl
       have hcz19_2 : w11.cell? ⟨gb230, 2, none⟩ = some (.string a0_2) := (blk_cell BK230.out 2).trans rfl
       have hcz19_3 : w11.cell? ⟨gb230, 3, none⟩ = some (.string a0_3) := (blk_cell BK230.out 3).trans rfl
       have hfz19_0 := blk_frozen BK230.out 0
       have hfz19_1 := blk_frozen BK230.out 1
       have hfz19_2 := blk_frozen BK230.out 2
       have hfz19_3 := blk_frozen BK230.out 3
       go_wp2
       go_meet
       case rel => exact ⟨_, (true), (by first | rfl | (simp; done) | (simp [*]; done) | (simp [wrap64]; done)), H', ⟨by first | omega | exact Nat.le_refl _⟩, ⟨by (with_reducible repeat (first | refine blk_drewN ?_ _ | refine blk_drew ?_ | refine blk_alloc ?_ _)); exact BK230.out⟩, ⟨bl⟩⟩
      ·rw [if_neg c18] at H
       have c18b0 : decide (60 < (a3.size : Int)) = false := decide_eq_false c18
       have c18b1 : decide (60 < a3.size) = false := decide_eq_false (by omega)
       clear c18
       by_cases c20 : (a4.size : Int) > 60
       ·rw [if_pos c20] at H
        have c20b0 : decide (60 < (a4.size : Int)) = true := decide_eq_true c20
        have c20b1 : decide (60 < a4.size) = true := decide_eq_true (by omega)
        clear c20
        have H' := Aside0.mk H
        clear H
        have hcz21_0 : w11.cell? ⟨gb230, 0, none⟩ = some (.int .i64 a0_0) := (blk_cell BK230.out 0).trans rfl
        have hcz21_1 : w11.cell? ⟨gb230, 1, none⟩ = some (.bool a0_1) := (blk_cell BK230.out 1).trans rfl
        have hcz21_2 : w11.cell? ⟨gb230, 2, none⟩ = some (.string a0_2) := (blk_cell BK230.out 2).trans rfl
        have hcz21_3 : w11.cell? ⟨gb230, 3, none⟩ = some (.string a0_3) := (blk_cell BK230.out 3).trans rfl
        have hfz21_0 := blk_frozen BK230.out 0
        have hfz21_1 := blk_frozen BK230.out 1
        have hfz21_2 := blk_frozen BK230.out 2
        have hfz21_3 := blk_frozen BK230.out 3
        go_wp2
        go_meet
        case rel => exact ⟨_, (true), (by first | rfl | (simp; done) | (simp [*]; done) | (simp [wrap64]; done)), H', ⟨by first | omega | exact Nat.le_refl _⟩, ⟨by (with_reducible repeat (first | refine blk_drewN ?_ _ | refine blk_drew ?_ | refine blk_alloc ?_ _)); exact BK230.out⟩, ⟨bl⟩⟩
       ·rw [if_neg c20] at H
        have c20b0 : decide (60 < (a4.size : Int)) = false := decide_eq_false c20
        have c20b1 : decide (60 < a4.size) = false := decide_eq_false (by omega)
        clear c20
        have H' := Aside0.mk H
        clear H
        have hcz22_0 : w11.cell? ⟨gb230, 0, none⟩ = some (.int .i64 a0_0) := (blk_cell BK230.out 0).trans rfl
        have hcz22_1 : w11.cell? ⟨gb230, 1, none⟩ = some (.bool a0_1) := (blk_cell BK230.out 1).trans rfl
        have hcz22_2 : w11.cell? ⟨gb230, 2, none⟩ = some (.string a0_2) := (blk_cell BK230.out 2).trans rfl
        have hcz22_3 : w11.cell? ⟨gb230, 3, none⟩ = some (.string a0_3) := (blk_cell BK230.out 3).trans rfl
        have hfz22_0 := blk_frozen BK230.out 0
        have hfz22_1 := blk_frozen BK230.out 1
        have hfz22_2 := blk_frozen BK230.out 2
        have hfz22_3 := blk_frozen BK230.out 3
        go_wp2
        go_meet
        case rel => exact ⟨_, (decide ((a5.size : Int) > 150)), (by first | rfl | (simp; done) | (simp [*]; done) | (simp [wrap64]; done)), H', ⟨by first | omega | exact Nat.le_refl _⟩, ⟨by (with_reducible repeat (first | refine blk_drewN ?_ _ | refine blk_drew ?_ | refine blk_alloc ?_ _)); exact BK230.out⟩, ⟨bl⟩⟩
  case rest =>
   clear HC9
   try clear c1; try clear c2; try clear p2; try clear c8; try clear c9; try clear c12; try clear c12b0; try clear c12b1; try clear c14; try clear c14b0; try clear c14b1; try clear c16; try clear c16b0; try clear c16b1; try clear c18; try clear c18b0; try clear c18b1; try clear c20; try clear c20b0; try clear c20b1; try clear hcz13_0; try clear hcz13_1; try clear hcz13_2; try clear hcz13_3; try clear hcz15_0; try clear hcz15_1; try clear hcz15_2; try clear hcz15_3; try clear hcz17_0; try clear hcz17_1; try clear hcz17_2; try clear hcz17_3; try clear hcz19_0; try clear hcz19_1; try clear hcz19_2; try clear hcz19_3; try clear hcz21_0; try clear hcz21_1; try clear hcz21_2; try clear hcz21_3; try clear hcz22_0; try clear hcz22_1; try clear hcz22_2; try clear hcz22_3; try clear hfz13_0; try clear hfz13_1; try clear hfz13_2; try clear hfz13_3; try clear hfz15_0; try clear hfz15_1; try clear hfz15_2; try clear hfz15_3; try clear hfz17_0; try clear hfz17_1; try clear hfz17_2; try clear hfz17_3; try clear hfz19_0; try clear hfz19_1; try clear hfz19_2; try clear hfz19_3; try clear hfz21_0; try clear hfz21_1; try clear hfz21_2; try clear hfz21_3; try clear hfz22_0; try clear hfz22_1; try clear hfz22_2; try clear hfz22_3
   obtain ⟨kq, x52_8, rfl, HA, HJ8, BK230, HB⟩ := hcut
   cases kq with
   | zero => exact absurd HA.out (by simp [targumlaw5_DecTells.j0])
   | succ kj8 =>
    have H := HA.out
    clear HA
    simp only [targumlaw5_DecTells.j0] at H
    by_cases c23 : x52_8 = true
    ·subst c23
     have H1 : (some true) = some r := by rw [if_pos rfl] at H; exact H
     clear H
     have H := H1
     clear H1
     obtain rfl := Option.some.inj H
     go_wp2
     go_ret
     exact ⟨by first | rfl | (simp [errW_none, errW_some] <;> rfl) | (simp [*, errW_none, errW_some] <;> rfl), bl⟩
    ·replace c23 := Bool.eq_false_iff.mpr c23
     subst c23
     have H1 : ((dec_Make.f kj8 a1 a2 a3 a4).bind fun bt232 => ((targumref4_Make.f kj8 a1 a2 a3 a4).bind fun bt238 => ((dec_Parse.f kj8 a5).bind fun bt244 => ((targumref4_Parse.f kj8 a5).bind fun bt250 => ((dec_Good.f kj8 a0_0 a0_1 a0_2 a0_3).bind fun t256 => ((targumref4_Dec.f kj8 a0_0 a0_1 a0_2 a0_3).bind fun t257 => (if (t256 == t257) = true then ((dec_Print.f kj8 a0_0 a0_1 a0_2 a0_3).bind fun t258 => ((targumref4_Print.f kj8 a0_0 a0_1 a0_2 a0_3).bind fun t259 => (if t258.toList = t259.toList then (if (bt232.1 == bt238.1 && (bt232.2.1 == bt238.2.1 && (bt232.2.2.1.toList == bt238.2.2.1.toList && (bt232.2.2.2.1.toList == bt238.2.2.2.1.toList)))) = true then (if (bt232.2.2.2.2 == bt238.2.2.2.2) = true then (if (bt244.1 == bt250.1 && (bt244.2.1 == bt250.2.1 && (bt244.2.2.1.toList == bt250.2.2.1.toList && (bt244.2.2.2.1.toList == bt250.2.2.2.1.toList)))) = true then (if (bt244.2.2.2.2 == bt250.2.2.2.2) = true then ((dec_Print.f kj8 bt232.1 bt232.2.1 bt232.2.2.1 bt232.2.2.2.1).bind fun t260 => ((targumref4_Print.f kj8 bt238.1 bt238.2.1 bt238.2.2.1 bt238.2.2.2.1).bind fun t261 => (some (t260.toList == t261.toList)))) else (some false)) else (some false)) else (some false)) else (some false)) else (some false)))) else (some false)))))))) = some r := by rw [if_neg (show ¬ (false = true) by decide)] at H; exact H
     clear H
     have H := H1
     clear H1
     replace H := Option.bind_eq_some_iff.mp H
     obtain ⟨⟨t232, t233, t234, t235, t236⟩, A240, H⟩ := H
     replace H : ((targumref4_Make.f kj8 a1 a2 a3 a4).bind fun bt238 => ((dec_Parse.f kj8 a5).bind fun bt244 => ((targumref4_Parse.f kj8 a5).bind fun bt250 => ((dec_Good.f kj8 a0_0 a0_1 a0_2 a0_3).bind fun t256 => ((targumref4_Dec.f kj8 a0_0 a0_1 a0_2 a0_3).bind fun t257 => (if (t256 == t257) = true then ((dec_Print.f kj8 a0_0 a0_1 a0_2 a0_3).bind fun t258 => ((targumref4_Print.f kj8 a0_0 a0_1 a0_2 a0_3).bind fun t259 => (if t258.toList = t259.toList then (if (t232 == bt238.1 && (t233 == bt238.2.1 && (t234.toList == bt238.2.2.1.toList && (t235.toList == bt238.2.2.2.1.toList)))) = true then (if (t236 == bt238.2.2.2.2) = true then (if (bt244.1 == bt250.1 && (bt244.2.1 == bt250.2.1 && (bt244.2.2.1.toList == bt250.2.2.1.toList && (bt244.2.2.2.1.toList == bt250.2.2.2.1.toList)))) = true then (if (bt244.2.2.2.2 == bt250.2.2.2.2) = true then ((dec_Print.f kj8 t232 t233 t234 t235).bind fun t260 => ((targumref4_Print.f kj8 bt238.1 bt238.2.1 bt238.2.2.1 bt238.2.2.2.1).bind fun t261 => (some (t260.toList == t261.toList)))) else (some false)) else (some false)) else (some false)) else (some false)) else (some false)))) else (some false))))))) = some r := H
     have A24 := Aside0.mk A240
     clear A240
     replace H := Option.bind_eq_some_iff.mp H
     obtain ⟨⟨t238, t239, t240, t241, t242⟩, A250, H⟩ := H
     replace H : ((dec_Parse.f kj8 a5).bind fun bt244 => ((targumref4_Parse.f kj8 a5).bind fun bt250 => ((dec_Good.f kj8 a0_0 a0_1 a0_2 a0_3).bind fun t256 => ((targumref4_Dec.f kj8 a0_0 a0_1 a0_2 a0_3).bind fun t257 => (if (t256 == t257) = true then ((dec_Print.f kj8 a0_0 a0_1 a0_2 a0_3).bind fun t258 => ((targumref4_Print.f kj8 a0_0 a0_1 a0_2 a0_3).bind fun t259 => (if t258.toList = t259.toList then (if (t232 == t238 && (t233 == t239 && (t234.toList == t240.toList && (t235.toList == t241.toList)))) = true then (if (t236 == t242) = true then (if (bt244.1 == bt250.1 && (bt244.2.1 == bt250.2.1 && (bt244.2.2.1.toList == bt250.2.2.1.toList && (bt244.2.2.2.1.toList == bt250.2.2.2.1.toList)))) = true then (if (bt244.2.2.2.2 == bt250.2.2.2.2) = true then ((dec_Print.f kj8 t232 t233 t234 t235).bind fun t260 => ((targumref4_Print.f kj8 t238 t239 t240 t241).bind fun t261 => (some (t260.toList == t261.toList)))) else (some false)) else (some false)) else (some false)) else (some false)) else (some false)))) else (some false)))))) = some r := H
     have A25 := Aside0.mk A250
     clear A250
     replace H := Option.bind_eq_some_iff.mp H
     obtain ⟨⟨t244, t245, t246, t247, t248⟩, A260, H⟩ := H
     replace H : ((targumref4_Parse.f kj8 a5).bind fun bt250 => ((dec_Good.f kj8 a0_0 a0_1 a0_2 a0_3).bind fun t256 => ((targumref4_Dec.f kj8 a0_0 a0_1 a0_2 a0_3).bind fun t257 => (if (t256 == t257) = true then ((dec_Print.f kj8 a0_0 a0_1 a0_2 a0_3).bind fun t258 => ((targumref4_Print.f kj8 a0_0 a0_1 a0_2 a0_3).bind fun t259 => (if t258.toList = t259.toList then (if (t232 == t238 && (t233 == t239 && (t234.toList == t240.toList && (t235.toList == t241.toList)))) = true then (if (t236 == t242) = true then (if (t244 == bt250.1 && (t245 == bt250.2.1 && (t246.toList == bt250.2.2.1.toList && (t247.toList == bt250.2.2.2.1.toList)))) = true then (if (t248 == bt250.2.2.2.2) = true then ((dec_Print.f kj8 t232 t233 t234 t235).bind fun t260 => ((targumref4_Print.f kj8 t238 t239 t240 t241).bind fun t261 => (some (t260.toList == t261.toList)))) else (some false)) else (some false)) else (some false)) else (some false)) else (some false)))) else (some false))))) = some r := H
     have A26 := Aside0.mk A260
     clear A260
     replace H := Option.bind_eq_some_iff.mp H
     obtain ⟨⟨t250, t251, t252, t253, t254⟩, A270, H⟩ := H
     replace H : ((dec_Good.f kj8 a0_0 a0_1 a0_2 a0_3).bind fun t256 => ((targumref4_Dec.f kj8 a0_0 a0_1 a0_2 a0_3).bind fun t257 => (if (t256 == t257) = true then ((dec_Print.f kj8 a0_0 a0_1 a0_2 a0_3).bind fun t258 => ((targumref4_Print.f kj8 a0_0 a0_1 a0_2 a0_3).bind fun t259 => (if t258.toList = t259.toList then (if (t232 == t238 && (t233 == t239 && (t234.toList == t240.toList && (t235.toList == t241.toList)))) = true then (if (t236 == t242) = true then (if (t244 == t250 && (t245 == t251 && (t246.toList == t252.toList && (t247.toList == t253.toList)))) = true then (if (t248 == t254) = true then ((dec_Print.f kj8 t232 t233 t234 t235).bind fun t260 => ((targumref4_Print.f kj8 t238 t239 t240 t241).bind fun t261 => (some (t260.toList == t261.toList)))) else (some false)) else (some false)) else (some false)) else (some false)) else (some false)))) else (some false)))) = some r := H
     have A27 := Aside0.mk A270
     clear A270
     replace H := Option.bind_eq_some_iff.mp H
     obtain ⟨t256, A280, H⟩ := H
     replace H : ((targumref4_Dec.f kj8 a0_0 a0_1 a0_2 a0_3).bind fun t257 => (if (t256 == t257) = true then ((dec_Print.f kj8 a0_0 a0_1 a0_2 a0_3).bind fun t258 => ((targumref4_Print.f kj8 a0_0 a0_1 a0_2 a0_3).bind fun t259 => (if t258.toList = t259.toList then (if (t232 == t238 && (t233 == t239 && (t234.toList == t240.toList && (t235.toList == t241.toList)))) = true then (if (t236 == t242) = true then (if (t244 == t250 && (t245 == t251 && (t246.toList == t252.toList && (t247.toList == t253.toList)))) = true then (if (t248 == t254) = true then ((dec_Print.f kj8 t232 t233 t234 t235).bind fun t260 => ((targumref4_Print.f kj8 t238 t239 t240 t241).bind fun t261 => (some (t260.toList == t261.toList)))) else (some false)) else (some false)) else (some false)) else (some false)) else (some false)))) else (some false))) = some r := H
     have A28 := Aside0.mk A280
     clear A280
     replace H := Option.bind_eq_some_iff.mp H
     obtain ⟨t257, A290, H⟩ := H
     replace H : (if (t256 == t257) = true then ((dec_Print.f kj8 a0_0 a0_1 a0_2 a0_3).bind fun t258 => ((targumref4_Print.f kj8 a0_0 a0_1 a0_2 a0_3).bind fun t259 => (if t258.toList = t259.toList then (if (t232 == t238 && (t233 == t239 && (t234.toList == t240.toList && (t235.toList == t241.toList)))) = true then (if (t236 == t242) = true then (if (t244 == t250 && (t245 == t251 && (t246.toList == t252.toList && (t247.toList == t253.toList)))) = true then (if (t248 == t254) = true then ((dec_Print.f kj8 t232 t233 t234 t235).bind fun t260 => ((targumref4_Print.f kj8 t238 t239 t240 t241).bind fun t261 => (some (t260.toList == t261.toList)))) else (some false)) else (some false)) else (some false)) else (some false)) else (some false)))) else (some false)) = some r := H
     have A29 := Aside0.mk A290
     clear A290
     try go_wp2_with (first | ((with_reducible refine gate_callee (f := 29) rfl ?_); refine goesL_ (some 58) rfl rfl Tryd.func29 (by kernel_rfl) rfl #[.bool a1, .string a2, .string a3, .string a4] rfl (by (try simp only [List.map_toArray, List.map_cons, List.map_nil]); first | done | rfl | (simp only [List.length_drop, List.length_take]; rfl)) ?_; (with_reducible refine (dec_Make.calls _ _ _ _ _ _ _ _ _ _ _ ?side1 A24.out).mono ?_); (case side1 => exact Go.Proofs.YtddaggnomcoejaaDoor.PDT.Tabs_below HG.out bl); rintro e w40 ⟨rfl, hb⟩; refine ⟨_, rfl, ?_⟩; have n0_ := Aside0.mk (blk_below (g := gb230) (o := .cells #[.int .i64 a0_0, .bool a0_1, .string a0_2, .string a0_3] 40 (0, 0)) bk hb); have n1_ := Aside0.mk (below_step bl hb); clear BK230; clear HB; have BK230 := n0_; have HB := n1_; clear n0_ n1_; (try clear hb); (try clear hb2); (try clear hk); (try clear hi)) | ((with_reducible refine gate_dst (N := 13) rfl ?_); (try (refine gate_guard (by rfl) ?_; dsimp only)); refine box_event ?hg (N := 13) ?hd (cs := #[.int .i64 0, .bool false, .string (⟨#[]⟩ : ByteArray), .string (⟨#[]⟩ : ByteArray)]) (t := 40) ?hr ?_; (case hd => rfl); (case hg => rfl); (case hr => first | (go_simp; done) | (go_simp; rfl)); intro gb237 hg w41 hbox hb; have n0_ := Aside0.mk (blk_below (g := gb230) (o := .cells #[.int .i64 a0_0, .bool a0_1, .string a0_2, .string a0_3] 40 (0, 0)) bk hb); have n1_ := Aside0.mk (below_step bl hb); have n2_ := Aside0.mk (hbox); have n3_ := Aside0.mk ((by rw [hg]; exact (below_size bl) : w.heap.size ≤ gb237)); have n4_ := Aside0.mk ((by rw [hg]; exact (below_size bl) : w.heap.size ≤ gb237)); have n5_ := Aside0.mk ((by rw [hg]; exact Nat.ne_of_lt (blk_lt (g := gb230) (o := .cells #[.int .i64 a0_0, .bool a0_1, .string a0_2, .string a0_3] 40 (0, 0)) bk) : gb230 ≠ gb237)); have n6_ := Aside0.mk ((by rw [hg]; exact Nat.ne_of_gt (blk_lt (g := gb230) (o := .cells #[.int .i64 a0_0, .bool a0_1, .string a0_2, .string a0_3] 40 (0, 0)) bk) : gb237 ≠ gb230)); clear BK230; clear HB; have BK230 := n0_; have HB := n1_; have BK237 := n2_; have GW237 := n3_; have GE237 := n4_; have NB230_237 := n5_; have NB237_230 := n6_; clear n0_ n1_ n2_ n3_ n4_ n5_ n6_; clear hb hbox hg; have hnb42 := NB237_230.out; have hnc42 := NB230_237.out; have hcz43_0 : w41.cell? ⟨gb237, 0, none⟩ = some (.int .i64 0) := (blk_cell BK237.out 0).trans rfl; have hcz43_1 : w41.cell? ⟨gb237, 1, none⟩ = some (.bool false) := (blk_cell BK237.out 1).trans rfl; have hcz43_2 : w41.cell? ⟨gb237, 2, none⟩ = some (.string (⟨#[]⟩ : ByteArray)) := (blk_cell BK237.out 2).trans rfl; have hcz43_3 : w41.cell? ⟨gb237, 3, none⟩ = some (.string (⟨#[]⟩ : ByteArray)) := (blk_cell BK237.out 3).trans rfl; have hfz43_0 := blk_frozen BK237.out 0; have hfz43_1 := blk_frozen BK237.out 1; have hfz43_2 := blk_frozen BK237.out 2; have hfz43_3 := blk_frozen BK237.out 3) | ((with_reducible refine gate_callee (f := 30) rfl ?_); refine goesL_ (some 66) rfl rfl Tryd.func30 (by kernel_rfl) rfl #[.bool a1, .string a2, .string a3, .string a4] rfl (by (try simp only [List.map_toArray, List.map_cons, List.map_nil]); first | done | rfl | (simp only [List.length_drop, List.length_take]; rfl)) ?_; (with_reducible refine (targumref4_Make.calls _ _ _ _ _ _ _ _ _ _ _ A25.out).mono ?_); rintro e w44 ⟨rfl, hb⟩; refine ⟨_, rfl, ?_⟩; have n0_ := Aside0.mk (blk_below (g := gb230) (o := .cells #[.int .i64 a0_0, .bool a0_1, .string a0_2, .string a0_3] 40 (0, 0)) bk hb); have n1_ := Aside0.mk (blk_below (g := gb237) (o := .cells #[.int .i64 t232, .bool t233, .string t234, .string t235] 40 (0, 0)) bk hb); have n2_ := Aside0.mk (below_step bl hb); clear BK230; clear BK237; clear HB; have BK230 := n0_; have BK237 := n1_; have HB := n2_; clear n0_ n1_ n2_; (try clear hb); (try clear hb2); (try clear hk); (try clear hi)) | ((with_reducible refine gate_dst (N := 15) rfl ?_); (try (refine gate_guard (by rfl) ?_; dsimp only)); refine box_event ?hg (N := 15) ?hd (cs := #[.int .i64 0, .bool false, .string (⟨#[]⟩ : ByteArray), .string (⟨#[]⟩ : ByteArray)]) (t := 40) ?hr ?_; (case hd => rfl); (case hg => rfl); (case hr => first | (go_simp; done) | (go_simp; rfl)); intro gb243 hg w45 hbox hb; have n0_ := Aside0.mk (blk_below (g := gb230) (o := .cells #[.int .i64 a0_0, .bool a0_1, .string a0_2, .string a0_3] 40 (0, 0)) bk hb); have n1_ := Aside0.mk (blk_below (g := gb237) (o := .cells #[.int .i64 t232, .bool t233, .string t234, .string t235] 40 (0, 0)) bk hb); have n2_ := Aside0.mk (below_step bl hb); have n3_ := Aside0.mk (hbox); have n4_ := Aside0.mk ((by rw [hg]; exact (below_size bl) : w.heap.size ≤ gb243)); have n5_ := Aside0.mk ((by rw [hg]; exact (below_size bl) : w.heap.size ≤ gb243)); have n6_ := Aside0.mk ((by rw [hg]; exact Nat.ne_of_lt (blk_lt (g := gb230) (o := .cells #[.int .i64 a0_0, .bool a0_1, .string a0_2, .string a0_3] 40 (0, 0)) bk) : gb230 ≠ gb243)); have n7_ := Aside0.mk ((by rw [hg]; exact Nat.ne_of_gt (blk_lt (g := gb230) (o := .cells #[.int .i64 a0_0, .bool a0_1, .string a0_2, .string a0_3] 40 (0, 0)) bk) : gb243 ≠ gb230)); have n8_ := Aside0.mk ((by rw [hg]; exact Nat.ne_of_lt (blk_lt (g := gb237) (o := .cells #[.int .i64 t232, .bool t233, .string t234, .string t235] 40 (0, 0)) bk) : gb237 ≠ gb243)); have n9_ := Aside0.mk ((by rw [hg]; exact Nat.ne_of_gt (blk_lt (g := gb237) (o := .cells #[.int .i64 t232, .bool t233, .string t234, .string t235] 40 (0, 0)) bk) : gb243 ≠ gb237)); clear BK230; clear BK237; clear HB; have BK230 := n0_; have BK237 := n1_; have HB := n2_; have BK243 := n3_; have GW243 := n4_; have GE243 := n5_; have NB230_243 := n6_; have NB243_230 := n7_; have NB237_243 := n8_; have NB243_237 := n9_; clear n0_ n1_ n2_ n3_ n4_ n5_ n6_ n7_ n8_ n9_; clear hb hbox hg; have hnb46 := NB243_230.out; have hnc46 := NB230_243.out; have hnb47 := NB243_237.out; have hnc47 := NB237_243.out; have hcz48_0 : w45.cell? ⟨gb243, 0, none⟩ = some (.int .i64 0) := (blk_cell BK243.out 0).trans rfl; have hcz48_1 : w45.cell? ⟨gb243, 1, none⟩ = some (.bool false) := (blk_cell BK243.out 1).trans rfl; have hcz48_2 : w45.cell? ⟨gb243, 2, none⟩ = some (.string (⟨#[]⟩ : ByteArray)) := (blk_cell BK243.out 2).trans rfl; have hcz48_3 : w45.cell? ⟨gb243, 3, none⟩ = some (.string (⟨#[]⟩ : ByteArray)) := (blk_cell BK243.out 3).trans rfl; have hfz48_0 := blk_frozen BK243.out 0; have hfz48_1 := blk_frozen BK243.out 1; have hfz48_2 := blk_frozen BK243.out 2; have hfz48_3 := blk_frozen BK243.out 3) | ((with_reducible refine gate_callee (f := 31) rfl ?_); refine goesL_ (some 71) rfl rfl Tryd.func31 (by kernel_rfl) rfl #[.string a5] rfl (by (try simp only [List.map_toArray, List.map_cons, List.map_nil]); first | done | rfl | (simp only [List.length_drop, List.length_take]; rfl)) ?_; (with_reducible refine (dec_Parse.calls _ _ _ _ _ _ _ _ ?side1 A26.out).mono ?_); (case side1 => exact Go.Proofs.YtddaggnomcoejaaDoor.PDT.Tabs_below HG.out bl); rintro e w49 ⟨rfl, hb⟩; refine ⟨_, rfl, ?_⟩; have n0_ := Aside0.mk (blk_below (g := gb230) (o := .cells #[.int .i64 a0_0, .bool a0_1, .string a0_2, .string a0_3] 40 (0, 0)) bk hb); have n1_ := Aside0.mk (blk_below (g := gb237) (o := .cells #[.int .i64 t232, .bool t233, .string t234, .string t235] 40 (0, 0)) bk hb); have n2_ := Aside0.mk (blk_below (g := gb243) (o := .cells #[.int .i64 t238, .bool t239, .string t240, .string t241] 40 (0, 0)) bk hb); have n3_ := Aside0.mk (below_step bl hb); clear BK230; clear BK237; clear BK243; clear HB; have BK230 := n0_; have BK237 := n1_; have BK243 := n2_; have HB := n3_; clear n0_ n1_ n2_ n3_; (try clear hb); (try clear hb2); (try clear hk); (try clear hi)) | ((with_reducible refine gate_dst (N := 17) rfl ?_); (try (refine gate_guard (by rfl) ?_; dsimp only)); refine box_event ?hg (N := 17) ?hd (cs := #[.int .i64 0, .bool false, .string (⟨#[]⟩ : ByteArray), .string (⟨#[]⟩ : ByteArray)]) (t := 40) ?hr ?_; (case hd => rfl); (case hg => rfl); (case hr => first | (go_simp; done) | (go_simp; rfl)); intro gb249 hg w50 hbox hb; have n0_ := Aside0.mk (blk_below (g := gb230) (o := .cells #[.int .i64 a0_0, .bool a0_1, .string a0_2, .string a0_3] 40 (0, 0)) bk hb); have n1_ := Aside0.mk (blk_below (g := gb237) (o := .cells #[.int .i64 t232, .bool t233, .string t234, .string t235] 40 (0, 0)) bk hb); have n2_ := Aside0.mk (blk_below (g := gb243) (o := .cells #[.int .i64 t238, .bool t239, .string t240, .string t241] 40 (0, 0)) bk hb); have n3_ := Aside0.mk (below_step bl hb); have n4_ := Aside0.mk (hbox); have n5_ := Aside0.mk ((by rw [hg]; exact (below_size bl) : w.heap.size ≤ gb249)); have n6_ := Aside0.mk ((by rw [hg]; exact (below_size bl) : w.heap.size ≤ gb249)); have n7_ := Aside0.mk ((by rw [hg]; exact Nat.ne_of_lt (blk_lt (g := gb230) (o := .cells #[.int .i64 a0_0, .bool a0_1, .string a0_2, .string a0_3] 40 (0, 0)) bk) : gb230 ≠ gb249)); have n8_ := Aside0.mk ((by rw [hg]; exact Nat.ne_of_gt (blk_lt (g := gb230) (o := .cells #[.int .i64 a0_0, .bool a0_1, .string a0_2, .string a0_3] 40 (0, 0)) bk) : gb249 ≠ gb230)); have n9_ := Aside0.mk ((by rw [hg]; exact Nat.ne_of_lt (blk_lt (g := gb237) (o := .cells #[.int .i64 t232, .bool t233, .string t234, .string t235] 40 (0, 0)) bk) : gb237 ≠ gb249)); have n10_ := Aside0.mk ((by rw [hg]; exact Nat.ne_of_gt (blk_lt (g := gb237) (o := .cells #[.int .i64 t232, .bool t233, .string t234, .string t235] 40 (0, 0)) bk) : gb249 ≠ gb237)); have n11_ := Aside0.mk ((by rw [hg]; exact Nat.ne_of_lt (blk_lt (g := gb243) (o := .cells #[.int .i64 t238, .bool t239, .string t240, .string t241] 40 (0, 0)) bk) : gb243 ≠ gb249)); have n12_ := Aside0.mk ((by rw [hg]; exact Nat.ne_of_gt (blk_lt (g := gb243) (o := .cells #[.int .i64 t238, .bool t239, .string t240, .string t241] 40 (0, 0)) bk) : gb249 ≠ gb243)); clear BK230; clear BK237; clear BK243; clear HB; have BK230 := n0_; have BK237 := n1_; have BK243 := n2_; have HB := n3_; have BK249 := n4_; have GW249 := n5_; have GE249 := n6_; have NB230_249 := n7_; have NB249_230 := n8_; have NB237_249 := n9_; have NB249_237 := n10_; have NB243_249 := n11_; have NB249_243 := n12_; clear n0_ n1_ n2_ n3_ n4_ n5_ n6_ n7_ n8_ n9_ n10_ n11_ n12_; clear hb hbox hg; have hnb51 := NB249_230.out; have hnc51 := NB230_249.out; have hnb52 := NB249_237.out; have hnc52 := NB237_249.out; have hnb53 := NB249_243.out; have hnc53 := NB243_249.out; have hcz54_0 : w50.cell? ⟨gb249, 0, none⟩ = some (.int .i64 0) := (blk_cell BK249.out 0).trans rfl; have hcz54_1 : w50.cell? ⟨gb249, 1, none⟩ = some (.bool false) := (blk_cell BK249.out 1).trans rfl; have hcz54_2 : w50.cell? ⟨gb249, 2, none⟩ = some (.string (⟨#[]⟩ : ByteArray)) := (blk_cell BK249.out 2).trans rfl; have hcz54_3 : w50.cell? ⟨gb249, 3, none⟩ = some (.string (⟨#[]⟩ : ByteArray)) := (blk_cell BK249.out 3).trans rfl; have hfz54_0 := blk_frozen BK249.out 0; have hfz54_1 := blk_frozen BK249.out 1; have hfz54_2 := blk_frozen BK249.out 2; have hfz54_3 := blk_frozen BK249.out 3) | ((with_reducible refine gate_callee (f := 32) rfl ?_); refine goesL_ (some 76) rfl rfl Tryd.func32 (by kernel_rfl) rfl #[.string a5] rfl (by (try simp only [List.map_toArray, List.map_cons, List.map_nil]); first | done | rfl | (simp only [List.length_drop, List.length_take]; rfl)) ?_; (with_reducible refine (targumref4_Parse.calls _ _ _ _ _ _ _ _ A27.out).mono ?_); rintro e w55 ⟨rfl, hb⟩; refine ⟨_, rfl, ?_⟩; have n0_ := Aside0.mk (blk_below (g := gb230) (o := .cells #[.int .i64 a0_0, .bool a0_1, .string a0_2, .string a0_3] 40 (0, 0)) bk hb); have n1_ := Aside0.mk (blk_below (g := gb237) (o := .cells #[.int .i64 t232, .bool t233, .string t234, .string t235] 40 (0, 0)) bk hb); have n2_ := Aside0.mk (blk_below (g := gb243) (o := .cells #[.int .i64 t238, .bool t239, .string t240, .string t241] 40 (0, 0)) bk hb); have n3_ := Aside0.mk (blk_below (g := gb249) (o := .cells #[.int .i64 t244, .bool t245, .string t246, .string t247] 40 (0, 0)) bk hb); have n4_ := Aside0.mk (below_step bl hb); clear BK230; clear BK237; clear BK243; clear BK249; clear HB; have BK230 := n0_; have BK237 := n1_; have BK243 := n2_; have BK249 := n3_; have HB := n4_; clear n0_ n1_ n2_ n3_ n4_; (try clear hb); (try clear hb2); (try clear hk); (try clear hi)) | ((with_reducible refine gate_dst (N := 19) rfl ?_); (try (refine gate_guard (by rfl) ?_; dsimp only)); refine box_event ?hg (N := 19) ?hd (cs := #[.int .i64 0, .bool false, .string (⟨#[]⟩ : ByteArray), .string (⟨#[]⟩ : ByteArray)]) (t := 40) ?hr ?_; (case hd => rfl); (case hg => rfl); (case hr => first | (go_simp; done) | (go_simp; rfl)); intro gb255 hg w56 hbox hb; have n0_ := Aside0.mk (blk_below (g := gb230) (o := .cells #[.int .i64 a0_0, .bool a0_1, .string a0_2, .string a0_3] 40 (0, 0)) bk hb); have n1_ := Aside0.mk (blk_below (g := gb237) (o := .cells #[.int .i64 t232, .bool t233, .string t234, .string t235] 40 (0, 0)) bk hb); have n2_ := Aside0.mk (blk_below (g := gb243) (o := .cells #[.int .i64 t238, .bool t239, .string t240, .string t241] 40 (0, 0)) bk hb); have n3_ := Aside0.mk (blk_below (g := gb249) (o := .cells #[.int .i64 t244, .bool t245, .string t246, .string t247] 40 (0, 0)) bk hb); have n4_ := Aside0.mk (below_step bl hb); have n5_ := Aside0.mk (hbox); have n6_ := Aside0.mk ((by rw [hg]; exact (below_size bl) : w.heap.size ≤ gb255)); have n7_ := Aside0.mk ((by rw [hg]; exact (below_size bl) : w.heap.size ≤ gb255)); have n8_ := Aside0.mk ((by rw [hg]; exact Nat.ne_of_lt (blk_lt (g := gb230) (o := .cells #[.int .i64 a0_0, .bool a0_1, .string a0_2, .string a0_3] 40 (0, 0)) bk) : gb230 ≠ gb255)); have n9_ := Aside0.mk ((by rw [hg]; exact Nat.ne_of_gt (blk_lt (g := gb230) (o := .cells #[.int .i64 a0_0, .bool a0_1, .string a0_2, .string a0_3] 40 (0, 0)) bk) : gb255 ≠ gb230)); have n10_ := Aside0.mk ((by rw [hg]; exact Nat.ne_of_lt (blk_lt (g := gb237) (o := .cells #[.int .i64 t232, .bool t233, .string t234, .string t235] 40 (0, 0)) bk) : gb237 ≠ gb255)); have n11_ := Aside0.mk ((by rw [hg]; exact Nat.ne_of_gt (blk_lt (g := gb237) (o := .cells #[.int .i64 t232, .bool t233, .string t234, .string t235] 40 (0, 0)) bk) : gb255 ≠ gb237)); have n12_ := Aside0.mk ((by rw [hg]; exact Nat.ne_of_lt (blk_lt (g := gb243) (o := .cells #[.int .i64 t238, .bool t239, .string t240, .string t241] 40 (0, 0)) bk) : gb243 ≠ gb255)); have n13_ := Aside0.mk ((by rw [hg]; exact Nat.ne_of_gt (blk_lt (g := gb243) (o := .cells #[.int .i64 t238, .bool t239, .string t240, .string t241] 40 (0, 0)) bk) : gb255 ≠ gb243)); have n14_ := Aside0.mk ((by rw [hg]; exact Nat.ne_of_lt (blk_lt (g := gb249) (o := .cells #[.int .i64 t244, .bool t245, .string t246, .string t247] 40 (0, 0)) bk) : gb249 ≠ gb255)); have n15_ := Aside0.mk ((by rw [hg]; exact Nat.ne_of_gt (blk_lt (g := gb249) (o := .cells #[.int .i64 t244, .bool t245, .string t246, .string t247] 40 (0, 0)) bk) : gb255 ≠ gb249)); clear BK230; clear BK237; clear BK243; clear BK249; clear HB; have BK230 := n0_; have BK237 := n1_; have BK243 := n2_; have BK249 := n3_; have HB := n4_; have BK255 := n5_; have GW255 := n6_; have GE255 := n7_; have NB230_255 := n8_; have NB255_230 := n9_; have NB237_255 := n10_; have NB255_237 := n11_; have NB243_255 := n12_; have NB255_243 := n13_; have NB249_255 := n14_; have NB255_249 := n15_; clear n0_ n1_ n2_ n3_ n4_ n5_ n6_ n7_ n8_ n9_ n10_ n11_ n12_ n13_ n14_ n15_; clear hb hbox hg; have hnb57 := NB255_230.out; have hnc57 := NB230_255.out; have hnb58 := NB255_237.out; have hnc58 := NB237_255.out; have hnb59 := NB255_243.out; have hnc59 := NB243_255.out; have hnb60 := NB255_249.out; have hnc60 := NB249_255.out; have hcz61_0 : w56.cell? ⟨gb255, 0, none⟩ = some (.int .i64 0) := (blk_cell BK255.out 0).trans rfl; have hcz61_1 : w56.cell? ⟨gb255, 1, none⟩ = some (.bool false) := (blk_cell BK255.out 1).trans rfl; have hcz61_2 : w56.cell? ⟨gb255, 2, none⟩ = some (.string (⟨#[]⟩ : ByteArray)) := (blk_cell BK255.out 2).trans rfl; have hcz61_3 : w56.cell? ⟨gb255, 3, none⟩ = some (.string (⟨#[]⟩ : ByteArray)) := (blk_cell BK255.out 3).trans rfl; have hfz61_0 := blk_frozen BK255.out 0; have hfz61_1 := blk_frozen BK255.out 1; have hfz61_2 := blk_frozen BK255.out 2; have hfz61_3 := blk_frozen BK255.out 3))
     have n0_ : Aside0 (((((w56.setCell ⟨gb255, 0, none⟩ (.int .i64 t250)).setCell ⟨gb255, 1, none⟩ (.bool t251)).setCell ⟨gb255, 2, none⟩ (.string t252)).setCell ⟨gb255, 3, none⟩ (.string t253)).heap[gb230]? = some (.cells #[.int .i64 a0_0, .bool a0_1, .string a0_2, .string a0_3] 40 (0, 0))) := ⟨by (with_reducible repeat (first | refine blk_drewN ?_ _ | refine blk_drew ?_ | refine blk_alloc ?_ _)); refine blk_far ?_ NB230_255.out _; (with_reducible repeat (first | refine blk_drewN ?_ _ | refine blk_drew ?_ | refine blk_alloc ?_ _)); refine blk_far ?_ NB230_255.out _; (with_reducible repeat (first | refine blk_drewN ?_ _ | refine blk_drew ?_ | refine blk_alloc ?_ _)); refine blk_far ?_ NB230_255.out _; (with_reducible repeat (first | refine blk_drewN ?_ _ | refine blk_drew ?_ | refine blk_alloc ?_ _)); refine blk_far ?_ NB230_255.out _; (with_reducible repeat (first | refine blk_drewN ?_ _ | refine blk_drew ?_ | refine blk_alloc ?_ _)); exact BK230.out⟩
     have n1_ : Aside0 (((((w56.setCell ⟨gb255, 0, none⟩ (.int .i64 t250)).setCell ⟨gb255, 1, none⟩ (.bool t251)).setCell ⟨gb255, 2, none⟩ (.string t252)).setCell ⟨gb255, 3, none⟩ (.string t253)).heap[gb237]? = some (.cells #[.int .i64 t232, .bool t233, .string t234, .string t235] 40 (0, 0))) := ⟨by (with_reducible repeat (first | refine blk_drewN ?_ _ | refine blk_drew ?_ | refine blk_alloc ?_ _)); refine blk_far ?_ NB237_255.out _; (with_reducible repeat (first | refine blk_drewN ?_ _ | refine blk_drew ?_ | refine blk_alloc ?_ _)); refine blk_far ?_ NB237_255.out _; (with_reducible repeat (first | refine blk_drewN ?_ _ | refine blk_drew ?_ | refine blk_alloc ?_ _)); refine blk_far ?_ NB237_255.out _; (with_reducible repeat (first | refine blk_drewN ?_ _ | refine blk_drew ?_ | refine blk_alloc ?_ _)); refine blk_far ?_ NB237_255.out _; (with_reducible repeat (first | refine blk_drewN ?_ _ | refine blk_drew ?_ | refine blk_alloc ?_ _)); exact BK237.out⟩
     have n2_ : Aside0 (((((w56.setCell ⟨gb255, 0, none⟩ (.int .i64 t250)).setCell ⟨gb255, 1, none⟩ (.bool t251)).setCell ⟨gb255, 2, none⟩ (.string t252)).setCell ⟨gb255, 3, none⟩ (.string t253)).heap[gb243]? = some (.cells #[.int .i64 t238, .bool t239, .string t240, .string t241] 40 (0, 0))) := ⟨by (with_reducible repeat (first | refine blk_drewN ?_ _ | refine blk_drew ?_ | refine blk_alloc ?_ _)); refine blk_far ?_ NB243_255.out _; (with_reducible repeat (first | refine blk_drewN ?_ _ | refine blk_drew ?_ | refine blk_alloc ?_ _)); refine blk_far ?_ NB243_255.out _; (with_reducible repeat (first | refine blk_drewN ?_ _ | refine blk_drew ?_ | refine blk_alloc ?_ _)); refine blk_far ?_ NB243_255.out _; (with_reducible repeat (first | refine blk_drewN ?_ _ | refine blk_drew ?_ | refine blk_alloc ?_ _)); refine blk_far ?_ NB243_255.out _; (with_reducible repeat (first | refine blk_drewN ?_ _ | refine blk_drew ?_ | refine blk_alloc ?_ _)); exact BK243.out⟩
     have n3_ : Aside0 (((((w56.setCell ⟨gb255, 0, none⟩ (.int .i64 t250)).setCell ⟨gb255, 1, none⟩ (.bool t251)).setCell ⟨gb255, 2, none⟩ (.string t252)).setCell ⟨gb255, 3, none⟩ (.string t253)).heap[gb249]? = some (.cells #[.int .i64 t244, .bool t245, .string t246, .string t247] 40 (0, 0))) := ⟨by (with_reducible repeat (first | refine blk_drewN ?_ _ | refine blk_drew ?_ | refine blk_alloc ?_ _)); refine blk_far ?_ NB249_255.out _; (with_reducible repeat (first | refine blk_drewN ?_ _ | refine blk_drew ?_ | refine blk_alloc ?_ _)); refine blk_far ?_ NB249_255.out _; (with_reducible repeat (first | refine blk_drewN ?_ _ | refine blk_drew ?_ | refine blk_alloc ?_ _)); refine blk_far ?_ NB249_255.out _; (with_reducible repeat (first | refine blk_drewN ?_ _ | refine blk_drew ?_ | refine blk_alloc ?_ _)); refine blk_far ?_ NB249_255.out _; (with_reducible repeat (first | refine blk_drewN ?_ _ | refine blk_drew ?_ | refine blk_alloc ?_ _)); exact BK249.out⟩
     have n4_ : Aside0 (((((w56.setCell ⟨gb255, 0, none⟩ (.int .i64 t250)).setCell ⟨gb255, 1, none⟩ (.bool t251)).setCell ⟨gb255, 2, none⟩ (.string t252)).setCell ⟨gb255, 3, none⟩ (.string t253)).heap[gb255]? = some (.cells #[.int .i64 t250, .bool t251, .string t252, .string t253] 40 (0, 0))) := ⟨by (with_reducible repeat (first | refine blk_drewN ?_ _ | refine blk_drew ?_ | refine blk_alloc ?_ _)); refine blk_put (cs := #[.int .i64 t250, .bool t251, .string t252, .string (⟨#[]⟩ : ByteArray)]) ?_ 3 _ rfl; (with_reducible repeat (first | refine blk_drewN ?_ _ | refine blk_drew ?_ | refine blk_alloc ?_ _)); refine blk_put (cs := #[.int .i64 t250, .bool t251, .string (⟨#[]⟩ : ByteArray), .string (⟨#[]⟩ : ByteArray)]) ?_ 2 _ rfl; (with_reducible repeat (first | refine blk_drewN ?_ _ | refine blk_drew ?_ | refine blk_alloc ?_ _)); refine blk_put (cs := #[.int .i64 t250, .bool false, .string (⟨#[]⟩ : ByteArray), .string (⟨#[]⟩ : ByteArray)]) ?_ 1 _ rfl; (with_reducible repeat (first | refine blk_drewN ?_ _ | refine blk_drew ?_ | refine blk_alloc ?_ _)); refine blk_put (cs := #[.int .i64 0, .bool false, .string (⟨#[]⟩ : ByteArray), .string (⟨#[]⟩ : ByteArray)]) ?_ 0 _ rfl; (with_reducible repeat (first | refine blk_drewN ?_ _ | refine blk_drew ?_ | refine blk_alloc ?_ _)); exact BK255.out⟩
     have n5_ : Aside0 (Below w.heap.size w ((((w56.setCell ⟨gb255, 0, none⟩ (.int .i64 t250)).setCell ⟨gb255, 1, none⟩ (.bool t251)).setCell ⟨gb255, 2, none⟩ (.string t252)).setCell ⟨gb255, 3, none⟩ (.string t253))) := ⟨bl⟩
     (try clear BK230)
     (try clear BK237)
     (try clear BK243)
     (try clear BK249)
     (try clear BK255)
     (try clear HB)
     generalize ((((w56.setCell ⟨gb255, 0, none⟩ (.int .i64 t250)).setCell ⟨gb255, 1, none⟩ (.bool t251)).setCell ⟨gb255, 2, none⟩ (.string t252)).setCell ⟨gb255, 3, none⟩ (.string t253)) = w62 at n0_ n1_ n2_ n3_ n4_ n5_ ⊢
     have BK230 := n0_
     have BK237 := n1_
     have BK243 := n2_
     have BK249 := n3_
     have BK255 := n4_
     have HB := n5_
     clear n0_ n1_ n2_ n3_ n4_ n5_
     have n0_ := Aside0.mk (blk_drew BK230.out)
     have n1_ := Aside0.mk (blk_drew BK237.out)
     have n2_ := Aside0.mk (blk_drew BK243.out)
     have n3_ := Aside0.mk (blk_drew BK249.out)
     have n4_ := Aside0.mk (blk_drew BK255.out)
     have n5_ := Aside0.mk (below_drew1 HB.out)
     clear BK230
     clear BK237
     clear BK243
     clear BK249
     clear BK255
     clear HB
     have BK230 := n0_
     have BK237 := n1_
     have BK243 := n2_
     have BK249 := n3_
     have BK255 := n4_
     have HB := n5_
     clear n0_ n1_ n2_ n3_ n4_ n5_
     by_cases c30 : (t256 == t257) = true
     ·rw [if_pos c30] at H
      have c30b0 : (t256 == t257) = true := c30
      (try (have c30b1 : decide (t256 = t257) = true := by simpa using c30))
      (try (have c30b2 : (t256 == t257) = true := by simpa using c30))
      clear c30
      replace H := Option.bind_eq_some_iff.mp H
      obtain ⟨t258, A310, H⟩ := H
      replace H : ((targumref4_Print.f kj8 a0_0 a0_1 a0_2 a0_3).bind fun t259 => (if t258.toList = t259.toList then (if (t232 == t238 && (t233 == t239 && (t234.toList == t240.toList && (t235.toList == t241.toList)))) = true then (if (t236 == t242) = true then (if (t244 == t250 && (t245 == t251 && (t246.toList == t252.toList && (t247.toList == t253.toList)))) = true then (if (t248 == t254) = true then ((dec_Print.f kj8 t232 t233 t234 t235).bind fun t260 => ((targumref4_Print.f kj8 t238 t239 t240 t241).bind fun t261 => (some (t260.toList == t261.toList)))) else (some false)) else (some false)) else (some false)) else (some false)) else (some false))) = some r := H
      have A31 := Aside0.mk A310
      clear A310
      replace H := Option.bind_eq_some_iff.mp H
      obtain ⟨t259, A320, H⟩ := H
      replace H : (if t258.toList = t259.toList then (if (t232 == t238 && (t233 == t239 && (t234.toList == t240.toList && (t235.toList == t241.toList)))) = true then (if (t236 == t242) = true then (if (t244 == t250 && (t245 == t251 && (t246.toList == t252.toList && (t247.toList == t253.toList)))) = true then (if (t248 == t254) = true then ((dec_Print.f kj8 t232 t233 t234 t235).bind fun t260 => ((targumref4_Print.f kj8 t238 t239 t240 t241).bind fun t261 => (some (t260.toList == t261.toList)))) else (some false)) else (some false)) else (some false)) else (some false)) else (some false)) = some r := H
      have A32 := Aside0.mk A320
      clear A320
      by_cases c33 : t258.toList = t259.toList
      ·rw [if_pos c33] at H
       have c33b0 : (t258.toList == t259.toList) = true := beq_iff_eq.mpr c33
       have c33b1 : (t258.toList != t259.toList) = false := bne_eq_false_iff_eq.mpr c33
       clear c33
       by_cases c34 : (t232 == t238 && (t233 == t239 && (t234.toList == t240.toList && (t235.toList == t241.toList)))) = true
       ·rw [if_pos c34] at H
        have c34b0 : (t232 == t238 && (t233 == t239 && (t234.toList == t240.toList && (t235.toList == t241.toList)))) = true := c34
        (try (have c34b1 : decide (t232 = t238 && (t233 == t239 && (t234.toList == t240.toList && (t235.toList == t241.toList)))) = true := by simpa using c34))
        (try (have c34b2 : (t232 == t238 && (t233 == t239 && (t234.toList == t240.toList && (t235.toList == t241.toList)))) = true := by simpa using c34))
        clear c34
        by_cases c35 : (t236 == t242) = true
        ·rw [if_pos c35] at H
         have c35b0 : (t236 == t242) = true := c35
         (try (have c35b1 : decide (t236 = t242) = true := by simpa using c35))
         (try (have c35b2 : (t236 == t242) = true := by simpa using c35))
         clear c35
         by_cases c36 : (t244 == t250 && (t245 == t251 && (t246.toList == t252.toList && (t247.toList == t253.toList)))) = true
         ·rw [if_pos c36] at H
          have c36b0 : (t244 == t250 && (t245 == t251 && (t246.toList == t252.toList && (t247.toList == t253.toList)))) = true := c36
          (try (have c36b1 : decide (t244 = t250 && (t245 == t251 && (t246.toList == t252.toList && (t247.toList == t253.toList)))) = true := by simpa using c36))
          (try (have c36b2 : (t244 == t250 && (t245 == t251 && (t246.toList == t252.toList && (t247.toList == t253.toList)))) = true := by simpa using c36))
          clear c36
          by_cases c37 : (t248 == t254) = true
          ·rw [if_pos c37] at H
           have c37b0 : (t248 == t254) = true := c37
           (try (have c37b1 : decide (t248 = t254) = true := by simpa using c37))
           (try (have c37b2 : (t248 == t254) = true := by simpa using c37))
           clear c37
           replace H := Option.bind_eq_some_iff.mp H
           obtain ⟨t260, A380, H⟩ := H
           replace H : ((targumref4_Print.f kj8 t238 t239 t240 t241).bind fun t261 => (some (t260.toList == t261.toList))) = some r := H
           have A38 := Aside0.mk A380
           clear A380
           replace H := Option.bind_eq_some_iff.mp H
           obtain ⟨t261, A390, H⟩ := H
           replace H : (some (t260.toList == t261.toList)) = some r := H
           have A39 := Aside0.mk A390
           clear A390
           obtain rfl := Option.some.inj H
           refine start_ (n := 40) (S := fun w' => w'.cell? ⟨gb230, 0, none⟩ = some (.int .i64 a0_0) ∧ w'.cell? ⟨gb230, 1, none⟩ = some (.bool a0_1) ∧ w'.cell? ⟨gb230, 2, none⟩ = some (.string a0_2) ∧ w'.cell? ⟨gb230, 3, none⟩ = some (.string a0_3) ∧ w'.cell? ⟨gb237, 0, none⟩ = some (.int .i64 t232) ∧ w'.cell? ⟨gb237, 1, none⟩ = some (.bool t233) ∧ w'.cell? ⟨gb237, 2, none⟩ = some (.string t234) ∧ w'.cell? ⟨gb237, 3, none⟩ = some (.string t235) ∧ w'.cell? ⟨gb243, 0, none⟩ = some (.int .i64 t238) ∧ w'.cell? ⟨gb243, 1, none⟩ = some (.bool t239) ∧ w'.cell? ⟨gb243, 2, none⟩ = some (.string t240) ∧ w'.cell? ⟨gb243, 3, none⟩ = some (.string t241) ∧ w'.cell? ⟨gb249, 0, none⟩ = some (.int .i64 t244) ∧ w'.cell? ⟨gb249, 1, none⟩ = some (.bool t245) ∧ w'.cell? ⟨gb249, 2, none⟩ = some (.string t246) ∧ w'.cell? ⟨gb249, 3, none⟩ = some (.string t247) ∧ w'.cell? ⟨gb255, 0, none⟩ = some (.int .i64 t250) ∧ w'.cell? ⟨gb255, 1, none⟩ = some (.bool t251) ∧ w'.cell? ⟨gb255, 2, none⟩ = some (.string t252) ∧ w'.cell? ⟨gb255, 3, none⟩ = some (.string t253)) (ds := []) mk_0 (by kernel_rfl) rfl rfl ⟨(blk_cell BK230.out 0).trans rfl, (blk_cell BK230.out 1).trans rfl, (blk_cell BK230.out 2).trans rfl, (blk_cell BK230.out 3).trans rfl, (blk_cell BK237.out 0).trans rfl, (blk_cell BK237.out 1).trans rfl, (blk_cell BK237.out 2).trans rfl, (blk_cell BK237.out 3).trans rfl, (blk_cell BK243.out 0).trans rfl, (blk_cell BK243.out 1).trans rfl, (blk_cell BK243.out 2).trans rfl, (blk_cell BK243.out 3).trans rfl, (blk_cell BK249.out 0).trans rfl, (blk_cell BK249.out 1).trans rfl, (blk_cell BK249.out 2).trans rfl, (blk_cell BK249.out 3).trans rfl, (blk_cell BK255.out 0).trans rfl, (blk_cell BK255.out 1).trans rfl, (blk_cell BK255.out 2).trans rfl, (blk_cell BK255.out 3).trans rfl⟩ (fun hHeld => ?_); refine with_tabW targumlaw5_DecTells.tab9 targumlaw5_DecTells.bits9 (fun HT_ HW_ => ?_)
           generalize w62.drew = w63 at BK230 BK237 BK243 BK249 BK255 HB hHeld ⊢
           refine take_ (i := 0) (N := some 79) (v := ?_) (a' := ?_) mk_1 rfl rfl (take_ofW HT_.out HW_.out (by kernel_rfl)) (fun _ _ _ h => h) (Or.inl ⟨by rfl, ?_⟩) hHeld ?_ ?_
           rotate_left
           ·rintro w' ⟨s0, s1, s2, s3, s4, s5, s6, s7, s8, s9, s10, s11, s12, s13, s14, s15, s16, s17, s18, s19⟩
            go_simp
            with_reducible rfl
           rotate_left
           ·simp only [Act.put, List.setIfInBounds_toArray, List.set_cons_zero, List.set_cons_succ, i64_w, i32_w]
            rfl
           refine take_ (i := 2) (N := some 81) (v := ?_) (a' := ?_) mk_2 rfl rfl (take_ofW HT_.out HW_.out (by kernel_rfl)) (fun _ _ _ h => h) (Or.inl ⟨by rfl, ?_⟩) hHeld ?_ ?_
           rotate_left
           ·rintro w' ⟨s0, s1, s2, s3, s4, s5, s6, s7, s8, s9, s10, s11, s12, s13, s14, s15, s16, s17, s18, s19⟩
            go_simp
            with_reducible rfl
           rotate_left
           ·simp only [Act.put, List.setIfInBounds_toArray, List.set_cons_zero, List.set_cons_succ, i64_w, i32_w]
            rfl
           refine one_ (i := 1) (N := some 80) mk_3 rfl rfl (one_of HT_.out (by kernel_rfl)) (by decide) (fun K hK => ?_)
           refine goes_ Tryd.func33 (by kernel_rfl) rfl #[.agg #[.int .i64 a0_0, .bool a0_1, .string a0_2, .string a0_3]] (by rfl) rfl rfl (by (try simp only [List.map_toArray, List.map_cons, List.map_nil]); first | done | rfl | (simp only [List.length_drop, List.length_take]; rfl)) ?_
           with_reducible refine (dec_Good.calls kj8 a0_0 a0_1 a0_2 a0_3 t256 _ A28.out).mono ?_
           rintro e w64 ⟨rfl, hb⟩
           refine ⟨_, rfl, ?_⟩
           have n0_ := Aside0.mk (blk_below (g := gb230) (o := .cells #[.int .i64 a0_0, .bool a0_1, .string a0_2, .string a0_3] 40 (0, 0)) bk hb)
           have n1_ := Aside0.mk (blk_below (g := gb237) (o := .cells #[.int .i64 t232, .bool t233, .string t234, .string t235] 40 (0, 0)) bk hb)
           have n2_ := Aside0.mk (blk_below (g := gb243) (o := .cells #[.int .i64 t238, .bool t239, .string t240, .string t241] 40 (0, 0)) bk hb)
           have n3_ := Aside0.mk (blk_below (g := gb249) (o := .cells #[.int .i64 t244, .bool t245, .string t246, .string t247] 40 (0, 0)) bk hb)
           have n4_ := Aside0.mk (blk_below (g := gb255) (o := .cells #[.int .i64 t250, .bool t251, .string t252, .string t253] 40 (0, 0)) bk hb)
           have n5_ := Aside0.mk (below_step bl hb)
           clear BK230
           clear BK237
           clear BK243
           clear BK249
           clear BK255
           clear HB
           have BK230 := n0_
           have BK237 := n1_
           have BK243 := n2_
           have BK249 := n3_
           have BK255 := n4_
           have HB := n5_
           clear n0_ n1_ n2_ n3_ n4_ n5_
           (try clear hb)
           (try clear hb2)
           (try clear hk)
           (try clear hi)
           refine hK.out _ _ ⟨(blk_cell BK230.out 0).trans rfl, (blk_cell BK230.out 1).trans rfl, (blk_cell BK230.out 2).trans rfl, (blk_cell BK230.out 3).trans rfl, (blk_cell BK237.out 0).trans rfl, (blk_cell BK237.out 1).trans rfl, (blk_cell BK237.out 2).trans rfl, (blk_cell BK237.out 3).trans rfl, (blk_cell BK243.out 0).trans rfl, (blk_cell BK243.out 1).trans rfl, (blk_cell BK243.out 2).trans rfl, (blk_cell BK243.out 3).trans rfl, (blk_cell BK249.out 0).trans rfl, (blk_cell BK249.out 1).trans rfl, (blk_cell BK249.out 2).trans rfl, (blk_cell BK249.out 3).trans rfl, (blk_cell BK255.out 0).trans rfl, (blk_cell BK255.out 1).trans rfl, (blk_cell BK255.out 2).trans rfl, (blk_cell BK255.out 3).trans rfl⟩ (fun hHeld => ?_)
           clear hK K
           refine norm_ (a' := ?_) ?_ ?_
           rotate_left
           ·show Act.put _ (some 80) _ = _
            simp only [Act.put, List.setIfInBounds_toArray, List.set_cons_zero, List.set_cons_succ, i64_w, i32_w]
            rfl
           refine one_ (i := 3) (N := some 82) mk_4 rfl rfl (one_of HT_.out (by kernel_rfl)) (by decide) (fun K hK => ?_)
           refine goes_ Tryd.func34 (by kernel_rfl) rfl #[.agg #[.int .i64 a0_0, .bool a0_1, .string a0_2, .string a0_3]] (by rfl) rfl rfl (by (try simp only [List.map_toArray, List.map_cons, List.map_nil]); first | done | rfl | (simp only [List.length_drop, List.length_take]; rfl)) ?_
           with_reducible refine (targumref4_Dec.calls kj8 a0_0 a0_1 a0_2 a0_3 t257 _ A29.out).mono ?_
           rintro e w65 ⟨rfl, hb⟩
           refine ⟨_, rfl, ?_⟩
           have n0_ := Aside0.mk (blk_below (g := gb230) (o := .cells #[.int .i64 a0_0, .bool a0_1, .string a0_2, .string a0_3] 40 (0, 0)) bk hb)
           have n1_ := Aside0.mk (blk_below (g := gb237) (o := .cells #[.int .i64 t232, .bool t233, .string t234, .string t235] 40 (0, 0)) bk hb)
           have n2_ := Aside0.mk (blk_below (g := gb243) (o := .cells #[.int .i64 t238, .bool t239, .string t240, .string t241] 40 (0, 0)) bk hb)
           have n3_ := Aside0.mk (blk_below (g := gb249) (o := .cells #[.int .i64 t244, .bool t245, .string t246, .string t247] 40 (0, 0)) bk hb)
           have n4_ := Aside0.mk (blk_below (g := gb255) (o := .cells #[.int .i64 t250, .bool t251, .string t252, .string t253] 40 (0, 0)) bk hb)
           have n5_ := Aside0.mk (below_step bl hb)
           clear BK230
           clear BK237
           clear BK243
           clear BK249
           clear BK255
           clear HB
           have BK230 := n0_
           have BK237 := n1_
           have BK243 := n2_
           have BK249 := n3_
           have BK255 := n4_
           have HB := n5_
           clear n0_ n1_ n2_ n3_ n4_ n5_
           (try clear hb)
           (try clear hb2)
           (try clear hk)
           (try clear hi)
           refine hK.out _ _ ⟨(blk_cell BK230.out 0).trans rfl, (blk_cell BK230.out 1).trans rfl, (blk_cell BK230.out 2).trans rfl, (blk_cell BK230.out 3).trans rfl, (blk_cell BK237.out 0).trans rfl, (blk_cell BK237.out 1).trans rfl, (blk_cell BK237.out 2).trans rfl, (blk_cell BK237.out 3).trans rfl, (blk_cell BK243.out 0).trans rfl, (blk_cell BK243.out 1).trans rfl, (blk_cell BK243.out 2).trans rfl, (blk_cell BK243.out 3).trans rfl, (blk_cell BK249.out 0).trans rfl, (blk_cell BK249.out 1).trans rfl, (blk_cell BK249.out 2).trans rfl, (blk_cell BK249.out 3).trans rfl, (blk_cell BK255.out 0).trans rfl, (blk_cell BK255.out 1).trans rfl, (blk_cell BK255.out 2).trans rfl, (blk_cell BK255.out 3).trans rfl⟩ (fun hHeld => ?_)
           clear hK K
           refine norm_ (a' := ?_) ?_ ?_
           rotate_left
           ·show Act.put _ (some 82) _ = _
            simp only [Act.put, List.setIfInBounds_toArray, List.set_cons_zero, List.set_cons_succ, i64_w, i32_w]
            rfl
           refine pure_ (i := 4) (N := some 83) (v := ?_) (a' := ?_) mk_5 rfl rfl (any_of HT_.out (by kernel_rfl)) (fun _ _ _ h => h) (Or.inl ⟨by rfl, ?_⟩) ?_ ?_
           rotate_left
           ·intro w'
            go_simp
            with_reducible rfl
           rotate_left
           ·simp only [Act.put, List.setIfInBounds_toArray, List.set_cons_zero, List.set_cons_succ, i64_w, i32_w]
            rfl
           refine pure_ (i := 5) (N := some 84) (v := ?_) (a' := ?_) mk_6 rfl rfl (any_of HT_.out (by kernel_rfl)) (fun _ _ _ h => h) (Or.inl ⟨by rfl, ?_⟩) ?_ ?_
           rotate_left
           ·intro w'
            go_simp
            with_reducible rfl
           rotate_left
           ·simp only [Act.put, List.setIfInBounds_toArray, List.set_cons_zero, List.set_cons_succ, i64_w, i32_w]
            rfl
           refine take_ (i := 6) (N := some 85) (v := ?_) (a' := ?_) mk_7 rfl rfl (take_ofW HT_.out HW_.out (by kernel_rfl)) (fun _ _ _ h => h) (Or.inl ⟨by rfl, ?_⟩) hHeld ?_ ?_
           rotate_left
           ·rintro w' ⟨s0, s1, s2, s3, s4, s5, s6, s7, s8, s9, s10, s11, s12, s13, s14, s15, s16, s17, s18, s19⟩
            go_simp
            with_reducible rfl
           rotate_left
           ·simp only [Act.put, List.setIfInBounds_toArray, List.set_cons_zero, List.set_cons_succ, i64_w, i32_w]
            rfl
           refine take_ (i := 8) (N := some 87) (v := ?_) (a' := ?_) mk_8 rfl rfl (take_ofW HT_.out HW_.out (by kernel_rfl)) (fun _ _ _ h => h) (Or.inl ⟨by rfl, ?_⟩) hHeld ?_ ?_
           rotate_left
           ·rintro w' ⟨s0, s1, s2, s3, s4, s5, s6, s7, s8, s9, s10, s11, s12, s13, s14, s15, s16, s17, s18, s19⟩
            go_simp
            with_reducible rfl
           rotate_left
           ·simp only [Act.put, List.setIfInBounds_toArray, List.set_cons_zero, List.set_cons_succ, i64_w, i32_w]
            rfl
           refine one_ (i := 7) (N := some 86) mk_9 rfl rfl (one_of HT_.out (by kernel_rfl)) (by decide) (fun K hK => ?_)
           refine goes_ Tryd.func35 (by kernel_rfl) rfl #[.agg #[.int .i64 a0_0, .bool a0_1, .string a0_2, .string a0_3]] (by rfl) rfl rfl (by (try simp only [List.map_toArray, List.map_cons, List.map_nil]); first | done | rfl | (simp only [List.length_drop, List.length_take]; rfl)) ?_
           with_reducible refine (dec_Print.calls kj8 a0_0 a0_1 a0_2 a0_3 t258 _ A31.out).mono ?_
           rintro e w66 ⟨rfl, hb⟩
           refine ⟨_, rfl, ?_⟩
           have n0_ := Aside0.mk (blk_below (g := gb230) (o := .cells #[.int .i64 a0_0, .bool a0_1, .string a0_2, .string a0_3] 40 (0, 0)) bk hb)
           have n1_ := Aside0.mk (blk_below (g := gb237) (o := .cells #[.int .i64 t232, .bool t233, .string t234, .string t235] 40 (0, 0)) bk hb)
           have n2_ := Aside0.mk (blk_below (g := gb243) (o := .cells #[.int .i64 t238, .bool t239, .string t240, .string t241] 40 (0, 0)) bk hb)
           have n3_ := Aside0.mk (blk_below (g := gb249) (o := .cells #[.int .i64 t244, .bool t245, .string t246, .string t247] 40 (0, 0)) bk hb)
           have n4_ := Aside0.mk (blk_below (g := gb255) (o := .cells #[.int .i64 t250, .bool t251, .string t252, .string t253] 40 (0, 0)) bk hb)
           have n5_ := Aside0.mk (below_step bl hb)
           clear BK230
           clear BK237
           clear BK243
           clear BK249
           clear BK255
           clear HB
           have BK230 := n0_
           have BK237 := n1_
           have BK243 := n2_
           have BK249 := n3_
           have BK255 := n4_
           have HB := n5_
           clear n0_ n1_ n2_ n3_ n4_ n5_
           (try clear hb)
           (try clear hb2)
           (try clear hk)
           (try clear hi)
           refine hK.out _ _ ⟨(blk_cell BK230.out 0).trans rfl, (blk_cell BK230.out 1).trans rfl, (blk_cell BK230.out 2).trans rfl, (blk_cell BK230.out 3).trans rfl, (blk_cell BK237.out 0).trans rfl, (blk_cell BK237.out 1).trans rfl, (blk_cell BK237.out 2).trans rfl, (blk_cell BK237.out 3).trans rfl, (blk_cell BK243.out 0).trans rfl, (blk_cell BK243.out 1).trans rfl, (blk_cell BK243.out 2).trans rfl, (blk_cell BK243.out 3).trans rfl, (blk_cell BK249.out 0).trans rfl, (blk_cell BK249.out 1).trans rfl, (blk_cell BK249.out 2).trans rfl, (blk_cell BK249.out 3).trans rfl, (blk_cell BK255.out 0).trans rfl, (blk_cell BK255.out 1).trans rfl, (blk_cell BK255.out 2).trans rfl, (blk_cell BK255.out 3).trans rfl⟩ (fun hHeld => ?_)
           clear hK K
           refine norm_ (a' := ?_) ?_ ?_
           rotate_left
           ·show Act.put _ (some 86) _ = _
            simp only [Act.put, List.setIfInBounds_toArray, List.set_cons_zero, List.set_cons_succ, i64_w, i32_w]
            rfl
           refine one_ (i := 9) (N := some 88) mk_10 rfl rfl (one_of HT_.out (by kernel_rfl)) (by decide) (fun K hK => ?_)
           refine goes_ Tryd.func36 (by kernel_rfl) rfl #[.agg #[.int .i64 a0_0, .bool a0_1, .string a0_2, .string a0_3]] (by rfl) rfl rfl (by (try simp only [List.map_toArray, List.map_cons, List.map_nil]); first | done | rfl | (simp only [List.length_drop, List.length_take]; rfl)) ?_
           with_reducible refine (targumref4_Print.calls kj8 a0_0 a0_1 a0_2 a0_3 t259 _ A32.out).mono ?_
           rintro e w67 ⟨rfl, hb⟩
           refine ⟨_, rfl, ?_⟩
           have n0_ := Aside0.mk (blk_below (g := gb230) (o := .cells #[.int .i64 a0_0, .bool a0_1, .string a0_2, .string a0_3] 40 (0, 0)) bk hb)
           have n1_ := Aside0.mk (blk_below (g := gb237) (o := .cells #[.int .i64 t232, .bool t233, .string t234, .string t235] 40 (0, 0)) bk hb)
           have n2_ := Aside0.mk (blk_below (g := gb243) (o := .cells #[.int .i64 t238, .bool t239, .string t240, .string t241] 40 (0, 0)) bk hb)
           have n3_ := Aside0.mk (blk_below (g := gb249) (o := .cells #[.int .i64 t244, .bool t245, .string t246, .string t247] 40 (0, 0)) bk hb)
           have n4_ := Aside0.mk (blk_below (g := gb255) (o := .cells #[.int .i64 t250, .bool t251, .string t252, .string t253] 40 (0, 0)) bk hb)
           have n5_ := Aside0.mk (below_step bl hb)
           clear BK230
           clear BK237
           clear BK243
           clear BK249
           clear BK255
           clear HB
           have BK230 := n0_
           have BK237 := n1_
           have BK243 := n2_
           have BK249 := n3_
           have BK255 := n4_
           have HB := n5_
           clear n0_ n1_ n2_ n3_ n4_ n5_
           (try clear hb)
           (try clear hb2)
           (try clear hk)
           (try clear hi)
           refine hK.out _ _ ⟨(blk_cell BK230.out 0).trans rfl, (blk_cell BK230.out 1).trans rfl, (blk_cell BK230.out 2).trans rfl, (blk_cell BK230.out 3).trans rfl, (blk_cell BK237.out 0).trans rfl, (blk_cell BK237.out 1).trans rfl, (blk_cell BK237.out 2).trans rfl, (blk_cell BK237.out 3).trans rfl, (blk_cell BK243.out 0).trans rfl, (blk_cell BK243.out 1).trans rfl, (blk_cell BK243.out 2).trans rfl, (blk_cell BK243.out 3).trans rfl, (blk_cell BK249.out 0).trans rfl, (blk_cell BK249.out 1).trans rfl, (blk_cell BK249.out 2).trans rfl, (blk_cell BK249.out 3).trans rfl, (blk_cell BK255.out 0).trans rfl, (blk_cell BK255.out 1).trans rfl, (blk_cell BK255.out 2).trans rfl, (blk_cell BK255.out 3).trans rfl⟩ (fun hHeld => ?_)
           clear hK K
           refine norm_ (a' := ?_) ?_ ?_
           rotate_left
           ·show Act.put _ (some 88) _ = _
            simp only [Act.put, List.setIfInBounds_toArray, List.set_cons_zero, List.set_cons_succ, i64_w, i32_w]
            rfl
           refine pure_ (i := 10) (N := some 89) (v := ?_) (a' := ?_) mk_11 rfl rfl (any_of HT_.out (by kernel_rfl)) (fun _ _ _ h => h) (Or.inl ⟨by rfl, ?_⟩) ?_ ?_
           rotate_left
           ·intro w'
            go_simp
            with_reducible rfl
           rotate_left
           ·simp only [Act.put, List.setIfInBounds_toArray, List.set_cons_zero, List.set_cons_succ, i64_w, i32_w]
            rfl
           refine pure_ (i := 11) (N := some 90) (v := ?_) (a' := ?_) mk_12 rfl rfl (any_of HT_.out (by kernel_rfl)) (fun _ _ _ h => h) (Or.inl ⟨by rfl, ?_⟩) ?_ ?_
           rotate_left
           ·intro w'
            go_simp
            with_reducible rfl
           rotate_left
           ·simp only [Act.put, List.setIfInBounds_toArray, List.set_cons_zero, List.set_cons_succ, i64_w, i32_w]
            rfl
           refine pure_ (i := 12) (N := some 91) (v := ?_) (a' := ?_) mk_13 rfl rfl (any_of HT_.out (by kernel_rfl)) (fun _ _ _ h => h) (Or.inl ⟨by rfl, ?_⟩) ?_ ?_
           rotate_left
           ·intro w'
            go_simp
            with_reducible rfl
           rotate_left
           ·simp only [Act.put, List.setIfInBounds_toArray, List.set_cons_zero, List.set_cons_succ, i64_w, i32_w]
            rfl
           refine take_ (i := 13) (N := some 92) (v := ?_) (a' := ?_) mk_14 rfl rfl (take_ofW HT_.out HW_.out (by kernel_rfl)) (fun _ _ _ h => h) (Or.inl ⟨by rfl, ?_⟩) hHeld ?_ ?_
           rotate_left
           ·rintro w' ⟨s0, s1, s2, s3, s4, s5, s6, s7, s8, s9, s10, s11, s12, s13, s14, s15, s16, s17, s18, s19⟩
            go_simp
            with_reducible rfl
           rotate_left
           ·simp only [Act.put, List.setIfInBounds_toArray, List.set_cons_zero, List.set_cons_succ, i64_w, i32_w]
            rfl
           refine take_ (i := 14) (N := some 93) (v := ?_) (a' := ?_) mk_15 rfl rfl (take_ofW HT_.out HW_.out (by kernel_rfl)) (fun _ _ _ h => h) (Or.inl ⟨by rfl, ?_⟩) hHeld ?_ ?_
           rotate_left
           ·rintro w' ⟨s0, s1, s2, s3, s4, s5, s6, s7, s8, s9, s10, s11, s12, s13, s14, s15, s16, s17, s18, s19⟩
            go_simp
            with_reducible rfl
           rotate_left
           ·simp only [Act.put, List.setIfInBounds_toArray, List.set_cons_zero, List.set_cons_succ, i64_w, i32_w]
            rfl
           refine pure_ (i := 15) (N := some 94) (v := ?_) (a' := ?_) mk_16 rfl rfl (any_of HT_.out (by kernel_rfl)) (fun _ _ _ h => h) (Or.inl ⟨by rfl, ?_⟩) ?_ ?_
           rotate_left
           ·intro w'
            go_simp
            with_reducible rfl
           rotate_left
           ·simp only [Act.put, List.setIfInBounds_toArray, List.set_cons_zero, List.set_cons_succ, i64_w, i32_w]
            rfl
           refine pure_ (i := 16) (N := some 95) (v := ?_) (a' := ?_) mk_17 rfl rfl (any_of HT_.out (by kernel_rfl)) (fun _ _ _ h => h) (Or.inl ⟨by rfl, ?_⟩) ?_ ?_
           rotate_left
           ·intro w'
            go_simp
            with_reducible rfl
           rotate_left
           ·simp only [Act.put, List.setIfInBounds_toArray, List.set_cons_zero, List.set_cons_succ, i64_w, i32_w]
            rfl
           refine pure_ (i := 17) (N := some 96) (v := ?_) (a' := ?_) mk_18 rfl rfl (any_of HT_.out (by kernel_rfl)) (fun _ _ _ h => h) (Or.inl ⟨by rfl, ?_⟩) ?_ ?_
           rotate_left
           ·intro w'
            go_simp
            with_reducible rfl
           rotate_left
           ·simp only [Act.put, List.setIfInBounds_toArray, List.set_cons_zero, List.set_cons_succ, i64_w, i32_w]
            rfl
           refine pure_ (i := 18) (N := some 97) (v := ?_) (a' := ?_) mk_19 rfl rfl (any_of HT_.out (by kernel_rfl)) (fun _ _ _ h => h) (Or.inl ⟨by rfl, ?_⟩) ?_ ?_
           rotate_left
           ·intro w'
            go_simp
            with_reducible rfl
           rotate_left
           ·simp only [Act.put, List.setIfInBounds_toArray, List.set_cons_zero, List.set_cons_succ, i64_w, i32_w]
            rfl
           refine pure_ (i := 19) (N := some 98) (v := ?_) (a' := ?_) mk_20 rfl rfl (any_of HT_.out (by kernel_rfl)) (fun _ _ _ h => h) (Or.inl ⟨by rfl, ?_⟩) ?_ ?_
           rotate_left
           ·intro w'
            go_simp
            with_reducible rfl
           rotate_left
           ·simp only [Act.put, List.setIfInBounds_toArray, List.set_cons_zero, List.set_cons_succ, i64_w, i32_w]
            rfl
           refine pure_ (i := 20) (N := some 99) (v := ?_) (a' := ?_) mk_21 rfl rfl (any_of HT_.out (by kernel_rfl)) (fun _ _ _ h => h) (Or.inl ⟨by rfl, ?_⟩) ?_ ?_
           rotate_left
           ·intro w'
            go_simp
            with_reducible rfl
           rotate_left
           ·simp only [Act.put, List.setIfInBounds_toArray, List.set_cons_zero, List.set_cons_succ, i64_w, i32_w]
            rfl
           refine pure_ (i := 21) (N := some 100) (v := ?_) (a' := ?_) mk_22 rfl rfl (any_of HT_.out (by kernel_rfl)) (fun _ _ _ h => h) (Or.inl ⟨by rfl, ?_⟩) ?_ ?_
           rotate_left
           ·intro w'
            go_simp
            with_reducible rfl
           rotate_left
           ·simp only [Act.put, List.setIfInBounds_toArray, List.set_cons_zero, List.set_cons_succ, i64_w, i32_w]
            rfl
           refine pure_ (i := 22) (N := some 101) (v := ?_) (a' := ?_) mk_23 rfl rfl (any_of HT_.out (by kernel_rfl)) (fun _ _ _ h => h) (Or.inl ⟨by rfl, ?_⟩) ?_ ?_
           rotate_left
           ·intro w'
            go_simp
            with_reducible rfl
           rotate_left
           ·simp only [Act.put, List.setIfInBounds_toArray, List.set_cons_zero, List.set_cons_succ, i64_w, i32_w]
            rfl
           refine take_ (i := 23) (N := some 102) (v := ?_) (a' := ?_) mk_24 rfl rfl (take_ofW HT_.out HW_.out (by kernel_rfl)) (fun _ _ _ h => h) (Or.inl ⟨by rfl, ?_⟩) hHeld ?_ ?_
           rotate_left
           ·rintro w' ⟨s0, s1, s2, s3, s4, s5, s6, s7, s8, s9, s10, s11, s12, s13, s14, s15, s16, s17, s18, s19⟩
            go_simp
            with_reducible rfl
           rotate_left
           ·simp only [Act.put, List.setIfInBounds_toArray, List.set_cons_zero, List.set_cons_succ, i64_w, i32_w]
            rfl
           refine take_ (i := 24) (N := some 103) (v := ?_) (a' := ?_) mk_25 rfl rfl (take_ofW HT_.out HW_.out (by kernel_rfl)) (fun _ _ _ h => h) (Or.inl ⟨by rfl, ?_⟩) hHeld ?_ ?_
           rotate_left
           ·rintro w' ⟨s0, s1, s2, s3, s4, s5, s6, s7, s8, s9, s10, s11, s12, s13, s14, s15, s16, s17, s18, s19⟩
            go_simp
            with_reducible rfl
           rotate_left
           ·simp only [Act.put, List.setIfInBounds_toArray, List.set_cons_zero, List.set_cons_succ, i64_w, i32_w]
            rfl
           refine pure_ (i := 25) (N := some 104) (v := ?_) (a' := ?_) mk_26 rfl rfl (any_of HT_.out (by kernel_rfl)) (fun _ _ _ h => h) (Or.inl ⟨by rfl, ?_⟩) ?_ ?_
           rotate_left
           ·intro w'
            go_simp
            with_reducible rfl
           rotate_left
           ·simp only [Act.put, List.setIfInBounds_toArray, List.set_cons_zero, List.set_cons_succ, i64_w, i32_w]
            rfl
           refine pure_ (i := 26) (N := some 105) (v := ?_) (a' := ?_) mk_27 rfl rfl (any_of HT_.out (by kernel_rfl)) (fun _ _ _ h => h) (Or.inl ⟨by rfl, ?_⟩) ?_ ?_
           rotate_left
           ·intro w'
            go_simp
            with_reducible rfl
           rotate_left
           ·simp only [Act.put, List.setIfInBounds_toArray, List.set_cons_zero, List.set_cons_succ, i64_w, i32_w]
            rfl
           refine pure_ (i := 27) (N := some 106) (v := ?_) (a' := ?_) mk_28 rfl rfl (any_of HT_.out (by kernel_rfl)) (fun _ _ _ h => h) (Or.inl ⟨by rfl, ?_⟩) ?_ ?_
           rotate_left
           ·intro w'
            go_simp
            with_reducible rfl
           rotate_left
           ·simp only [Act.put, List.setIfInBounds_toArray, List.set_cons_zero, List.set_cons_succ, i64_w, i32_w]
            rfl
           refine pure_ (i := 28) (N := some 107) (v := ?_) (a' := ?_) mk_29 rfl rfl (any_of HT_.out (by kernel_rfl)) (fun _ _ _ h => h) (Or.inl ⟨by rfl, ?_⟩) ?_ ?_
           rotate_left
           ·intro w'
            go_simp
            with_reducible rfl
           rotate_left
           ·simp only [Act.put, List.setIfInBounds_toArray, List.set_cons_zero, List.set_cons_succ, i64_w, i32_w]
            rfl
           refine pure_ (i := 29) (N := some 108) (v := ?_) (a' := ?_) mk_30 rfl rfl (any_of HT_.out (by kernel_rfl)) (fun _ _ _ h => h) (Or.inl ⟨by rfl, ?_⟩) ?_ ?_
           rotate_left
           ·intro w'
            go_simp
            with_reducible rfl
           rotate_left
           ·simp only [Act.put, List.setIfInBounds_toArray, List.set_cons_zero, List.set_cons_succ, i64_w, i32_w]
            rfl
           refine pure_ (i := 30) (N := some 109) (v := ?_) (a' := ?_) mk_31 rfl rfl (any_of HT_.out (by kernel_rfl)) (fun _ _ _ h => h) (Or.inl ⟨by rfl, ?_⟩) ?_ ?_
           rotate_left
           ·intro w'
            go_simp
            with_reducible rfl
           rotate_left
           ·simp only [Act.put, List.setIfInBounds_toArray, List.set_cons_zero, List.set_cons_succ, i64_w, i32_w]
            rfl
           refine pure_ (i := 31) (N := some 110) (v := ?_) (a' := ?_) mk_32 rfl rfl (any_of HT_.out (by kernel_rfl)) (fun _ _ _ h => h) (Or.inl ⟨by rfl, ?_⟩) ?_ ?_
           rotate_left
           ·intro w'
            go_simp
            with_reducible rfl
           rotate_left
           ·simp only [Act.put, List.setIfInBounds_toArray, List.set_cons_zero, List.set_cons_succ, i64_w, i32_w]
            rfl
           refine pure_ (i := 32) (N := some 111) (v := ?_) (a' := ?_) mk_33 rfl rfl (any_of HT_.out (by kernel_rfl)) (fun _ _ _ h => h) (Or.inl ⟨by rfl, ?_⟩) ?_ ?_
           rotate_left
           ·intro w'
            go_simp
            with_reducible rfl
           rotate_left
           ·simp only [Act.put, List.setIfInBounds_toArray, List.set_cons_zero, List.set_cons_succ, i64_w, i32_w]
            rfl
           refine take_ (i := 33) (N := some 112) (v := ?_) (a' := ?_) mk_34 rfl rfl (take_ofW HT_.out HW_.out (by kernel_rfl)) (fun _ _ _ h => h) (Or.inl ⟨by rfl, ?_⟩) hHeld ?_ ?_
           rotate_left
           ·rintro w' ⟨s0, s1, s2, s3, s4, s5, s6, s7, s8, s9, s10, s11, s12, s13, s14, s15, s16, s17, s18, s19⟩
            go_simp
            with_reducible rfl
           rotate_left
           ·simp only [Act.put, List.setIfInBounds_toArray, List.set_cons_zero, List.set_cons_succ, i64_w, i32_w]
            rfl
           refine take_ (i := 35) (N := some 114) (v := ?_) (a' := ?_) mk_35 rfl rfl (take_ofW HT_.out HW_.out (by kernel_rfl)) (fun _ _ _ h => h) (Or.inl ⟨by rfl, ?_⟩) hHeld ?_ ?_
           rotate_left
           ·rintro w' ⟨s0, s1, s2, s3, s4, s5, s6, s7, s8, s9, s10, s11, s12, s13, s14, s15, s16, s17, s18, s19⟩
            go_simp
            with_reducible rfl
           rotate_left
           ·simp only [Act.put, List.setIfInBounds_toArray, List.set_cons_zero, List.set_cons_succ, i64_w, i32_w]
            rfl
           refine one_ (i := 34) (N := some 113) mk_36 rfl rfl (one_of HT_.out (by kernel_rfl)) (by decide) (fun K hK => ?_)
           refine goes_ Tryd.func35 (by kernel_rfl) rfl #[.agg #[.int .i64 t232, .bool t233, .string t234, .string t235]] (by rfl) rfl rfl (by (try simp only [List.map_toArray, List.map_cons, List.map_nil]); first | done | rfl | (simp only [List.length_drop, List.length_take]; rfl)) ?_
           with_reducible refine (dec_Print.calls kj8 t232 t233 t234 t235 t260 _ A38.out).mono ?_
           rintro e w68 ⟨rfl, hb⟩
           refine ⟨_, rfl, ?_⟩
           have n0_ := Aside0.mk (blk_below (g := gb230) (o := .cells #[.int .i64 a0_0, .bool a0_1, .string a0_2, .string a0_3] 40 (0, 0)) bk hb)
           have n1_ := Aside0.mk (blk_below (g := gb237) (o := .cells #[.int .i64 t232, .bool t233, .string t234, .string t235] 40 (0, 0)) bk hb)
           have n2_ := Aside0.mk (blk_below (g := gb243) (o := .cells #[.int .i64 t238, .bool t239, .string t240, .string t241] 40 (0, 0)) bk hb)
           have n3_ := Aside0.mk (blk_below (g := gb249) (o := .cells #[.int .i64 t244, .bool t245, .string t246, .string t247] 40 (0, 0)) bk hb)
           have n4_ := Aside0.mk (blk_below (g := gb255) (o := .cells #[.int .i64 t250, .bool t251, .string t252, .string t253] 40 (0, 0)) bk hb)
           have n5_ := Aside0.mk (below_step bl hb)
           clear BK230
           clear BK237
           clear BK243
           clear BK249
           clear BK255
           clear HB
           have BK230 := n0_
           have BK237 := n1_
           have BK243 := n2_
           have BK249 := n3_
           have BK255 := n4_
           have HB := n5_
           clear n0_ n1_ n2_ n3_ n4_ n5_
           (try clear hb)
           (try clear hb2)
           (try clear hk)
           (try clear hi)
           refine hK.out _ _ ⟨(blk_cell BK230.out 0).trans rfl, (blk_cell BK230.out 1).trans rfl, (blk_cell BK230.out 2).trans rfl, (blk_cell BK230.out 3).trans rfl, (blk_cell BK237.out 0).trans rfl, (blk_cell BK237.out 1).trans rfl, (blk_cell BK237.out 2).trans rfl, (blk_cell BK237.out 3).trans rfl, (blk_cell BK243.out 0).trans rfl, (blk_cell BK243.out 1).trans rfl, (blk_cell BK243.out 2).trans rfl, (blk_cell BK243.out 3).trans rfl, (blk_cell BK249.out 0).trans rfl, (blk_cell BK249.out 1).trans rfl, (blk_cell BK249.out 2).trans rfl, (blk_cell BK249.out 3).trans rfl, (blk_cell BK255.out 0).trans rfl, (blk_cell BK255.out 1).trans rfl, (blk_cell BK255.out 2).trans rfl, (blk_cell BK255.out 3).trans rfl⟩ (fun hHeld => ?_)
           clear hK K
           refine norm_ (a' := ?_) ?_ ?_
           rotate_left
           ·show Act.put _ (some 113) _ = _
            simp only [Act.put, List.setIfInBounds_toArray, List.set_cons_zero, List.set_cons_succ, i64_w, i32_w]
            rfl
           refine one_ (i := 36) (N := some 115) mk_37 rfl rfl (one_of HT_.out (by kernel_rfl)) (by decide) (fun K hK => ?_)
           refine goes_ Tryd.func36 (by kernel_rfl) rfl #[.agg #[.int .i64 t238, .bool t239, .string t240, .string t241]] (by rfl) rfl rfl (by (try simp only [List.map_toArray, List.map_cons, List.map_nil]); first | done | rfl | (simp only [List.length_drop, List.length_take]; rfl)) ?_
           with_reducible refine (targumref4_Print.calls kj8 t238 t239 t240 t241 t261 _ A39.out).mono ?_
           rintro e w69 ⟨rfl, hb⟩
           refine ⟨_, rfl, ?_⟩
           have n0_ := Aside0.mk (blk_below (g := gb230) (o := .cells #[.int .i64 a0_0, .bool a0_1, .string a0_2, .string a0_3] 40 (0, 0)) bk hb)
           have n1_ := Aside0.mk (blk_below (g := gb237) (o := .cells #[.int .i64 t232, .bool t233, .string t234, .string t235] 40 (0, 0)) bk hb)
           have n2_ := Aside0.mk (blk_below (g := gb243) (o := .cells #[.int .i64 t238, .bool t239, .string t240, .string t241] 40 (0, 0)) bk hb)
           have n3_ := Aside0.mk (blk_below (g := gb249) (o := .cells #[.int .i64 t244, .bool t245, .string t246, .string t247] 40 (0, 0)) bk hb)
           have n4_ := Aside0.mk (blk_below (g := gb255) (o := .cells #[.int .i64 t250, .bool t251, .string t252, .string t253] 40 (0, 0)) bk hb)
           have n5_ := Aside0.mk (below_step bl hb)
           clear BK230
           clear BK237
           clear BK243
           clear BK249
           clear BK255
           clear HB
           have BK230 := n0_
           have BK237 := n1_
           have BK243 := n2_
           have BK249 := n3_
           have BK255 := n4_
           have HB := n5_
           clear n0_ n1_ n2_ n3_ n4_ n5_
           (try clear hb)
           (try clear hb2)
           (try clear hk)
           (try clear hi)
           refine hK.out _ _ ⟨(blk_cell BK230.out 0).trans rfl, (blk_cell BK230.out 1).trans rfl, (blk_cell BK230.out 2).trans rfl, (blk_cell BK230.out 3).trans rfl, (blk_cell BK237.out 0).trans rfl, (blk_cell BK237.out 1).trans rfl, (blk_cell BK237.out 2).trans rfl, (blk_cell BK237.out 3).trans rfl, (blk_cell BK243.out 0).trans rfl, (blk_cell BK243.out 1).trans rfl, (blk_cell BK243.out 2).trans rfl, (blk_cell BK243.out 3).trans rfl, (blk_cell BK249.out 0).trans rfl, (blk_cell BK249.out 1).trans rfl, (blk_cell BK249.out 2).trans rfl, (blk_cell BK249.out 3).trans rfl, (blk_cell BK255.out 0).trans rfl, (blk_cell BK255.out 1).trans rfl, (blk_cell BK255.out 2).trans rfl, (blk_cell BK255.out 3).trans rfl⟩ (fun hHeld => ?_)
           clear hK K
           refine norm_ (a' := ?_) ?_ ?_
           rotate_left
           ·show Act.put _ (some 115) _ = _
            simp only [Act.put, List.setIfInBounds_toArray, List.set_cons_zero, List.set_cons_succ, i64_w, i32_w]
            rfl
           refine pure_ (i := 37) (N := some 116) (v := ?_) (a' := ?_) mk_38 rfl rfl (any_of HT_.out (by kernel_rfl)) (fun _ _ _ h => h) (Or.inl ⟨by rfl, ?_⟩) ?_ ?_
           rotate_left
           ·intro w'
            go_simp
            with_reducible rfl
           rotate_left
           ·simp only [Act.put, List.setIfInBounds_toArray, List.set_cons_zero, List.set_cons_succ, i64_w, i32_w]
            rfl
           refine pure_ (i := 38) (N := some 117) (v := ?_) (a' := ?_) mk_39 rfl rfl (any_of HT_.out (by kernel_rfl)) (fun _ _ _ h => h) (Or.inl ⟨by rfl, ?_⟩) ?_ ?_
           rotate_left
           ·intro w'
            go_simp
            with_reducible rfl
           rotate_left
           ·simp only [Act.put, List.setIfInBounds_toArray, List.set_cons_zero, List.set_cons_succ, i64_w, i32_w]
            rfl
           refine pure_ (i := 39) (N := some 12) (v := ?_) (a' := ?_) mk_40 rfl rfl (any_of HT_.out (by kernel_rfl)) (fun _ _ _ h => h) (Or.inl ⟨by rfl, ?_⟩) ?_ ?_
           rotate_left
           ·intro w'
            go_simp
            with_reducible rfl
           rotate_left
           ·simp only [Act.put, List.setIfInBounds_toArray, List.set_cons_zero, List.set_cons_succ, i64_w, i32_w]
            rfl
           refine done_ (done_of HT_.out (by kernel_rfl)) ?_
           try go_wp2
           go_ret
           exact ⟨by first | rfl | (simp [errW_none, errW_some] <;> rfl) | (simp [*, errW_none, errW_some] <;> rfl), bl⟩
          ·rw [if_neg c37] at H
           have c37b0 : (t248 == t254) = false := by simpa using c37
           (try (have c37b1 : decide (t248 = t254) = false := by simpa using c37))
           (try (have c37b2 : (t248 == t254) = false := by simpa using c37))
           (try (have c37b3 : ¬ (t248 = t254) := by simpa using c37))
           clear c37
           obtain rfl := Option.some.inj H
           refine start_ (n := 40) (S := fun w' => w'.cell? ⟨gb230, 0, none⟩ = some (.int .i64 a0_0) ∧ w'.cell? ⟨gb230, 1, none⟩ = some (.bool a0_1) ∧ w'.cell? ⟨gb230, 2, none⟩ = some (.string a0_2) ∧ w'.cell? ⟨gb230, 3, none⟩ = some (.string a0_3) ∧ w'.cell? ⟨gb237, 0, none⟩ = some (.int .i64 t232) ∧ w'.cell? ⟨gb237, 1, none⟩ = some (.bool t233) ∧ w'.cell? ⟨gb237, 2, none⟩ = some (.string t234) ∧ w'.cell? ⟨gb237, 3, none⟩ = some (.string t235) ∧ w'.cell? ⟨gb243, 0, none⟩ = some (.int .i64 t238) ∧ w'.cell? ⟨gb243, 1, none⟩ = some (.bool t239) ∧ w'.cell? ⟨gb243, 2, none⟩ = some (.string t240) ∧ w'.cell? ⟨gb243, 3, none⟩ = some (.string t241) ∧ w'.cell? ⟨gb249, 0, none⟩ = some (.int .i64 t244) ∧ w'.cell? ⟨gb249, 1, none⟩ = some (.bool t245) ∧ w'.cell? ⟨gb249, 2, none⟩ = some (.string t246) ∧ w'.cell? ⟨gb249, 3, none⟩ = some (.string t247) ∧ w'.cell? ⟨gb255, 0, none⟩ = some (.int .i64 t250) ∧ w'.cell? ⟨gb255, 1, none⟩ = some (.bool t251) ∧ w'.cell? ⟨gb255, 2, none⟩ = some (.string t252) ∧ w'.cell? ⟨gb255, 3, none⟩ = some (.string t253)) (ds := []) mk_0 (by kernel_rfl) rfl rfl ⟨(blk_cell BK230.out 0).trans rfl, (blk_cell BK230.out 1).trans rfl, (blk_cell BK230.out 2).trans rfl, (blk_cell BK230.out 3).trans rfl, (blk_cell BK237.out 0).trans rfl, (blk_cell BK237.out 1).trans rfl, (blk_cell BK237.out 2).trans rfl, (blk_cell BK237.out 3).trans rfl, (blk_cell BK243.out 0).trans rfl, (blk_cell BK243.out 1).trans rfl, (blk_cell BK243.out 2).trans rfl, (blk_cell BK243.out 3).trans rfl, (blk_cell BK249.out 0).trans rfl, (blk_cell BK249.out 1).trans rfl, (blk_cell BK249.out 2).trans rfl, (blk_cell BK249.out 3).trans rfl, (blk_cell BK255.out 0).trans rfl, (blk_cell BK255.out 1).trans rfl, (blk_cell BK255.out 2).trans rfl, (blk_cell BK255.out 3).trans rfl⟩ (fun hHeld => ?_); refine with_tabW targumlaw5_DecTells.tab9 targumlaw5_DecTells.bits9 (fun HT_ HW_ => ?_)
           generalize w62.drew = w93 at BK230 BK237 BK243 BK249 BK255 HB hHeld ⊢
           refine take_ (i := 0) (N := some 79) (v := ?_) (a' := ?_) mk_1 rfl rfl (take_ofW HT_.out HW_.out (by kernel_rfl)) (fun _ _ _ h => h) (Or.inl ⟨by rfl, ?_⟩) hHeld ?_ ?_
           rotate_left
           ·rintro w' ⟨s0, s1, s2, s3, s4, s5, s6, s7, s8, s9, s10, s11, s12, s13, s14, s15, s16, s17, s18, s19⟩
            go_simp
            with_reducible rfl
           rotate_left
           ·simp only [Act.put, List.setIfInBounds_toArray, List.set_cons_zero, List.set_cons_succ, i64_w, i32_w]
            rfl
           refine take_ (i := 2) (N := some 81) (v := ?_) (a' := ?_) mk_2 rfl rfl (take_ofW HT_.out HW_.out (by kernel_rfl)) (fun _ _ _ h => h) (Or.inl ⟨by rfl, ?_⟩) hHeld ?_ ?_
           rotate_left
           ·rintro w' ⟨s0, s1, s2, s3, s4, s5, s6, s7, s8, s9, s10, s11, s12, s13, s14, s15, s16, s17, s18, s19⟩
            go_simp
            with_reducible rfl
           rotate_left
           ·simp only [Act.put, List.setIfInBounds_toArray, List.set_cons_zero, List.set_cons_succ, i64_w, i32_w]
            rfl
           refine one_ (i := 1) (N := some 80) mk_3 rfl rfl (one_of HT_.out (by kernel_rfl)) (by decide) (fun K hK => ?_)
           refine goes_ Tryd.func33 (by kernel_rfl) rfl #[.agg #[.int .i64 a0_0, .bool a0_1, .string a0_2, .string a0_3]] (by rfl) rfl rfl (by (try simp only [List.map_toArray, List.map_cons, List.map_nil]); first | done | rfl | (simp only [List.length_drop, List.length_take]; rfl)) ?_
           with_reducible refine (dec_Good.calls kj8 a0_0 a0_1 a0_2 a0_3 t256 _ A28.out).mono ?_
           rintro e w94 ⟨rfl, hb⟩
           refine ⟨_, rfl, ?_⟩
           have n0_ := Aside0.mk (blk_below (g := gb230) (o := .cells #[.int .i64 a0_0, .bool a0_1, .string a0_2, .string a0_3] 40 (0, 0)) bk hb)
           have n1_ := Aside0.mk (blk_below (g := gb237) (o := .cells #[.int .i64 t232, .bool t233, .string t234, .string t235] 40 (0, 0)) bk hb)
           have n2_ := Aside0.mk (blk_below (g := gb243) (o := .cells #[.int .i64 t238, .bool t239, .string t240, .string t241] 40 (0, 0)) bk hb)
           have n3_ := Aside0.mk (blk_below (g := gb249) (o := .cells #[.int .i64 t244, .bool t245, .string t246, .string t247] 40 (0, 0)) bk hb)
           have n4_ := Aside0.mk (blk_below (g := gb255) (o := .cells #[.int .i64 t250, .bool t251, .string t252, .string t253] 40 (0, 0)) bk hb)
           have n5_ := Aside0.mk (below_step bl hb)
           clear BK230
           clear BK237
           clear BK243
           clear BK249
           clear BK255
           clear HB
           have BK230 := n0_
           have BK237 := n1_
           have BK243 := n2_
           have BK249 := n3_
           have BK255 := n4_
           have HB := n5_
           clear n0_ n1_ n2_ n3_ n4_ n5_
           (try clear hb)
           (try clear hb2)
           (try clear hk)
           (try clear hi)
           refine hK.out _ _ ⟨(blk_cell BK230.out 0).trans rfl, (blk_cell BK230.out 1).trans rfl, (blk_cell BK230.out 2).trans rfl, (blk_cell BK230.out 3).trans rfl, (blk_cell BK237.out 0).trans rfl, (blk_cell BK237.out 1).trans rfl, (blk_cell BK237.out 2).trans rfl, (blk_cell BK237.out 3).trans rfl, (blk_cell BK243.out 0).trans rfl, (blk_cell BK243.out 1).trans rfl, (blk_cell BK243.out 2).trans rfl, (blk_cell BK243.out 3).trans rfl, (blk_cell BK249.out 0).trans rfl, (blk_cell BK249.out 1).trans rfl, (blk_cell BK249.out 2).trans rfl, (blk_cell BK249.out 3).trans rfl, (blk_cell BK255.out 0).trans rfl, (blk_cell BK255.out 1).trans rfl, (blk_cell BK255.out 2).trans rfl, (blk_cell BK255.out 3).trans rfl⟩ (fun hHeld => ?_)
           clear hK K
           refine norm_ (a' := ?_) ?_ ?_
           rotate_left
           ·show Act.put _ (some 80) _ = _
            simp only [Act.put, List.setIfInBounds_toArray, List.set_cons_zero, List.set_cons_succ, i64_w, i32_w]
            rfl
           refine one_ (i := 3) (N := some 82) mk_4 rfl rfl (one_of HT_.out (by kernel_rfl)) (by decide) (fun K hK => ?_)
           refine goes_ Tryd.func34 (by kernel_rfl) rfl #[.agg #[.int .i64 a0_0, .bool a0_1, .string a0_2, .string a0_3]] (by rfl) rfl rfl (by (try simp only [List.map_toArray, List.map_cons, List.map_nil]); first | done | rfl | (simp only [List.length_drop, List.length_take]; rfl)) ?_
           with_reducible refine (targumref4_Dec.calls kj8 a0_0 a0_1 a0_2 a0_3 t257 _ A29.out).mono ?_
           rintro e w95 ⟨rfl, hb⟩
           refine ⟨_, rfl, ?_⟩
           have n0_ := Aside0.mk (blk_below (g := gb230) (o := .cells #[.int .i64 a0_0, .bool a0_1, .string a0_2, .string a0_3] 40 (0, 0)) bk hb)
           have n1_ := Aside0.mk (blk_below (g := gb237) (o := .cells #[.int .i64 t232, .bool t233, .string t234, .string t235] 40 (0, 0)) bk hb)
           have n2_ := Aside0.mk (blk_below (g := gb243) (o := .cells #[.int .i64 t238, .bool t239, .string t240, .string t241] 40 (0, 0)) bk hb)
           have n3_ := Aside0.mk (blk_below (g := gb249) (o := .cells #[.int .i64 t244, .bool t245, .string t246, .string t247] 40 (0, 0)) bk hb)
           have n4_ := Aside0.mk (blk_below (g := gb255) (o := .cells #[.int .i64 t250, .bool t251, .string t252, .string t253] 40 (0, 0)) bk hb)
           have n5_ := Aside0.mk (below_step bl hb)
           clear BK230
           clear BK237
           clear BK243
           clear BK249
           clear BK255
           clear HB
           have BK230 := n0_
           have BK237 := n1_
           have BK243 := n2_
           have BK249 := n3_
           have BK255 := n4_
           have HB := n5_
           clear n0_ n1_ n2_ n3_ n4_ n5_
           (try clear hb)
           (try clear hb2)
           (try clear hk)
           (try clear hi)
           refine hK.out _ _ ⟨(blk_cell BK230.out 0).trans rfl, (blk_cell BK230.out 1).trans rfl, (blk_cell BK230.out 2).trans rfl, (blk_cell BK230.out 3).trans rfl, (blk_cell BK237.out 0).trans rfl, (blk_cell BK237.out 1).trans rfl, (blk_cell BK237.out 2).trans rfl, (blk_cell BK237.out 3).trans rfl, (blk_cell BK243.out 0).trans rfl, (blk_cell BK243.out 1).trans rfl, (blk_cell BK243.out 2).trans rfl, (blk_cell BK243.out 3).trans rfl, (blk_cell BK249.out 0).trans rfl, (blk_cell BK249.out 1).trans rfl, (blk_cell BK249.out 2).trans rfl, (blk_cell BK249.out 3).trans rfl, (blk_cell BK255.out 0).trans rfl, (blk_cell BK255.out 1).trans rfl, (blk_cell BK255.out 2).trans rfl, (blk_cell BK255.out 3).trans rfl⟩ (fun hHeld => ?_)
           clear hK K
           refine norm_ (a' := ?_) ?_ ?_
           rotate_left
           ·show Act.put _ (some 82) _ = _
            simp only [Act.put, List.setIfInBounds_toArray, List.set_cons_zero, List.set_cons_succ, i64_w, i32_w]
            rfl
           refine pure_ (i := 4) (N := some 83) (v := ?_) (a' := ?_) mk_5 rfl rfl (any_of HT_.out (by kernel_rfl)) (fun _ _ _ h => h) (Or.inl ⟨by rfl, ?_⟩) ?_ ?_
           rotate_left
           ·intro w'
            go_simp
            with_reducible rfl
           rotate_left
           ·simp only [Act.put, List.setIfInBounds_toArray, List.set_cons_zero, List.set_cons_succ, i64_w, i32_w]
            rfl
           refine pure_ (i := 5) (N := some 84) (v := ?_) (a' := ?_) mk_6 rfl rfl (any_of HT_.out (by kernel_rfl)) (fun _ _ _ h => h) (Or.inl ⟨by rfl, ?_⟩) ?_ ?_
           rotate_left
           ·intro w'
            go_simp
            with_reducible rfl
           rotate_left
           ·simp only [Act.put, List.setIfInBounds_toArray, List.set_cons_zero, List.set_cons_succ, i64_w, i32_w]
            rfl
           refine take_ (i := 6) (N := some 85) (v := ?_) (a' := ?_) mk_7 rfl rfl (take_ofW HT_.out HW_.out (by kernel_rfl)) (fun _ _ _ h => h) (Or.inl ⟨by rfl, ?_⟩) hHeld ?_ ?_
           rotate_left
           ·rintro w' ⟨s0, s1, s2, s3, s4, s5, s6, s7, s8, s9, s10, s11, s12, s13, s14, s15, s16, s17, s18, s19⟩
            go_simp
            with_reducible rfl
           rotate_left
           ·simp only [Act.put, List.setIfInBounds_toArray, List.set_cons_zero, List.set_cons_succ, i64_w, i32_w]
            rfl
           refine take_ (i := 8) (N := some 87) (v := ?_) (a' := ?_) mk_8 rfl rfl (take_ofW HT_.out HW_.out (by kernel_rfl)) (fun _ _ _ h => h) (Or.inl ⟨by rfl, ?_⟩) hHeld ?_ ?_
           rotate_left
           ·rintro w' ⟨s0, s1, s2, s3, s4, s5, s6, s7, s8, s9, s10, s11, s12, s13, s14, s15, s16, s17, s18, s19⟩
            go_simp
            with_reducible rfl
           rotate_left
           ·simp only [Act.put, List.setIfInBounds_toArray, List.set_cons_zero, List.set_cons_succ, i64_w, i32_w]
            rfl
           refine one_ (i := 7) (N := some 86) mk_9 rfl rfl (one_of HT_.out (by kernel_rfl)) (by decide) (fun K hK => ?_)
           refine goes_ Tryd.func35 (by kernel_rfl) rfl #[.agg #[.int .i64 a0_0, .bool a0_1, .string a0_2, .string a0_3]] (by rfl) rfl rfl (by (try simp only [List.map_toArray, List.map_cons, List.map_nil]); first | done | rfl | (simp only [List.length_drop, List.length_take]; rfl)) ?_
           with_reducible refine (dec_Print.calls kj8 a0_0 a0_1 a0_2 a0_3 t258 _ A31.out).mono ?_
           rintro e w96 ⟨rfl, hb⟩
           refine ⟨_, rfl, ?_⟩
           have n0_ := Aside0.mk (blk_below (g := gb230) (o := .cells #[.int .i64 a0_0, .bool a0_1, .string a0_2, .string a0_3] 40 (0, 0)) bk hb)
           have n1_ := Aside0.mk (blk_below (g := gb237) (o := .cells #[.int .i64 t232, .bool t233, .string t234, .string t235] 40 (0, 0)) bk hb)
           have n2_ := Aside0.mk (blk_below (g := gb243) (o := .cells #[.int .i64 t238, .bool t239, .string t240, .string t241] 40 (0, 0)) bk hb)
           have n3_ := Aside0.mk (blk_below (g := gb249) (o := .cells #[.int .i64 t244, .bool t245, .string t246, .string t247] 40 (0, 0)) bk hb)
           have n4_ := Aside0.mk (blk_below (g := gb255) (o := .cells #[.int .i64 t250, .bool t251, .string t252, .string t253] 40 (0, 0)) bk hb)
           have n5_ := Aside0.mk (below_step bl hb)
           clear BK230
           clear BK237
           clear BK243
           clear BK249
           clear BK255
           clear HB
           have BK230 := n0_
           have BK237 := n1_
           have BK243 := n2_
           have BK249 := n3_
           have BK255 := n4_
           have HB := n5_
           clear n0_ n1_ n2_ n3_ n4_ n5_
           (try clear hb)
           (try clear hb2)
           (try clear hk)
           (try clear hi)
           refine hK.out _ _ ⟨(blk_cell BK230.out 0).trans rfl, (blk_cell BK230.out 1).trans rfl, (blk_cell BK230.out 2).trans rfl, (blk_cell BK230.out 3).trans rfl, (blk_cell BK237.out 0).trans rfl, (blk_cell BK237.out 1).trans rfl, (blk_cell BK237.out 2).trans rfl, (blk_cell BK237.out 3).trans rfl, (blk_cell BK243.out 0).trans rfl, (blk_cell BK243.out 1).trans rfl, (blk_cell BK243.out 2).trans rfl, (blk_cell BK243.out 3).trans rfl, (blk_cell BK249.out 0).trans rfl, (blk_cell BK249.out 1).trans rfl, (blk_cell BK249.out 2).trans rfl, (blk_cell BK249.out 3).trans rfl, (blk_cell BK255.out 0).trans rfl, (blk_cell BK255.out 1).trans rfl, (blk_cell BK255.out 2).trans rfl, (blk_cell BK255.out 3).trans rfl⟩ (fun hHeld => ?_)
           clear hK K
           refine norm_ (a' := ?_) ?_ ?_
           rotate_left
           ·show Act.put _ (some 86) _ = _
            simp only [Act.put, List.setIfInBounds_toArray, List.set_cons_zero, List.set_cons_succ, i64_w, i32_w]
            rfl
           refine one_ (i := 9) (N := some 88) mk_10 rfl rfl (one_of HT_.out (by kernel_rfl)) (by decide) (fun K hK => ?_)
           refine goes_ Tryd.func36 (by kernel_rfl) rfl #[.agg #[.int .i64 a0_0, .bool a0_1, .string a0_2, .string a0_3]] (by rfl) rfl rfl (by (try simp only [List.map_toArray, List.map_cons, List.map_nil]); first | done | rfl | (simp only [List.length_drop, List.length_take]; rfl)) ?_
           with_reducible refine (targumref4_Print.calls kj8 a0_0 a0_1 a0_2 a0_3 t259 _ A32.out).mono ?_
           rintro e w97 ⟨rfl, hb⟩
           refine ⟨_, rfl, ?_⟩
           have n0_ := Aside0.mk (blk_below (g := gb230) (o := .cells #[.int .i64 a0_0, .bool a0_1, .string a0_2, .string a0_3] 40 (0, 0)) bk hb)
           have n1_ := Aside0.mk (blk_below (g := gb237) (o := .cells #[.int .i64 t232, .bool t233, .string t234, .string t235] 40 (0, 0)) bk hb)
           have n2_ := Aside0.mk (blk_below (g := gb243) (o := .cells #[.int .i64 t238, .bool t239, .string t240, .string t241] 40 (0, 0)) bk hb)
           have n3_ := Aside0.mk (blk_below (g := gb249) (o := .cells #[.int .i64 t244, .bool t245, .string t246, .string t247] 40 (0, 0)) bk hb)
           have n4_ := Aside0.mk (blk_below (g := gb255) (o := .cells #[.int .i64 t250, .bool t251, .string t252, .string t253] 40 (0, 0)) bk hb)
           have n5_ := Aside0.mk (below_step bl hb)
           clear BK230
           clear BK237
           clear BK243
           clear BK249
           clear BK255
           clear HB
           have BK230 := n0_
           have BK237 := n1_
           have BK243 := n2_
           have BK249 := n3_
           have BK255 := n4_
           have HB := n5_
           clear n0_ n1_ n2_ n3_ n4_ n5_
           (try clear hb)
           (try clear hb2)
           (try clear hk)
           (try clear hi)
           refine hK.out _ _ ⟨(blk_cell BK230.out 0).trans rfl, (blk_cell BK230.out 1).trans rfl, (blk_cell BK230.out 2).trans rfl, (blk_cell BK230.out 3).trans rfl, (blk_cell BK237.out 0).trans rfl, (blk_cell BK237.out 1).trans rfl, (blk_cell BK237.out 2).trans rfl, (blk_cell BK237.out 3).trans rfl, (blk_cell BK243.out 0).trans rfl, (blk_cell BK243.out 1).trans rfl, (blk_cell BK243.out 2).trans rfl, (blk_cell BK243.out 3).trans rfl, (blk_cell BK249.out 0).trans rfl, (blk_cell BK249.out 1).trans rfl, (blk_cell BK249.out 2).trans rfl, (blk_cell BK249.out 3).trans rfl, (blk_cell BK255.out 0).trans rfl, (blk_cell BK255.out 1).trans rfl, (blk_cell BK255.out 2).trans rfl, (blk_cell BK255.out 3).trans rfl⟩ (fun hHeld => ?_)
           clear hK K
           refine norm_ (a' := ?_) ?_ ?_
           rotate_left
           ·show Act.put _ (some 88) _ = _
            simp only [Act.put, List.setIfInBounds_toArray, List.set_cons_zero, List.set_cons_succ, i64_w, i32_w]
            rfl
           refine pure_ (i := 10) (N := some 89) (v := ?_) (a' := ?_) mk_11 rfl rfl (any_of HT_.out (by kernel_rfl)) (fun _ _ _ h => h) (Or.inl ⟨by rfl, ?_⟩) ?_ ?_
           rotate_left
           ·intro w'
            go_simp
            with_reducible rfl
           rotate_left
           ·simp only [Act.put, List.setIfInBounds_toArray, List.set_cons_zero, List.set_cons_succ, i64_w, i32_w]
            rfl
           refine pure_ (i := 11) (N := some 90) (v := ?_) (a' := ?_) mk_12 rfl rfl (any_of HT_.out (by kernel_rfl)) (fun _ _ _ h => h) (Or.inl ⟨by rfl, ?_⟩) ?_ ?_
           rotate_left
           ·intro w'
            go_simp
            with_reducible rfl
           rotate_left
           ·simp only [Act.put, List.setIfInBounds_toArray, List.set_cons_zero, List.set_cons_succ, i64_w, i32_w]
            rfl
           refine pure_ (i := 12) (N := some 91) (v := ?_) (a' := ?_) mk_13 rfl rfl (any_of HT_.out (by kernel_rfl)) (fun _ _ _ h => h) (Or.inl ⟨by rfl, ?_⟩) ?_ ?_
           rotate_left
           ·intro w'
            go_simp
            with_reducible rfl
           rotate_left
           ·simp only [Act.put, List.setIfInBounds_toArray, List.set_cons_zero, List.set_cons_succ, i64_w, i32_w]
            rfl
           refine take_ (i := 13) (N := some 92) (v := ?_) (a' := ?_) mk_14 rfl rfl (take_ofW HT_.out HW_.out (by kernel_rfl)) (fun _ _ _ h => h) (Or.inl ⟨by rfl, ?_⟩) hHeld ?_ ?_
           rotate_left
           ·rintro w' ⟨s0, s1, s2, s3, s4, s5, s6, s7, s8, s9, s10, s11, s12, s13, s14, s15, s16, s17, s18, s19⟩
            go_simp
            with_reducible rfl
           rotate_left
           ·simp only [Act.put, List.setIfInBounds_toArray, List.set_cons_zero, List.set_cons_succ, i64_w, i32_w]
            rfl
           refine take_ (i := 14) (N := some 93) (v := ?_) (a' := ?_) mk_15 rfl rfl (take_ofW HT_.out HW_.out (by kernel_rfl)) (fun _ _ _ h => h) (Or.inl ⟨by rfl, ?_⟩) hHeld ?_ ?_
           rotate_left
           ·rintro w' ⟨s0, s1, s2, s3, s4, s5, s6, s7, s8, s9, s10, s11, s12, s13, s14, s15, s16, s17, s18, s19⟩
            go_simp
            with_reducible rfl
           rotate_left
           ·simp only [Act.put, List.setIfInBounds_toArray, List.set_cons_zero, List.set_cons_succ, i64_w, i32_w]
            rfl
           refine pure_ (i := 15) (N := some 94) (v := ?_) (a' := ?_) mk_16 rfl rfl (any_of HT_.out (by kernel_rfl)) (fun _ _ _ h => h) (Or.inl ⟨by rfl, ?_⟩) ?_ ?_
           rotate_left
           ·intro w'
            go_simp
            with_reducible rfl
           rotate_left
           ·simp only [Act.put, List.setIfInBounds_toArray, List.set_cons_zero, List.set_cons_succ, i64_w, i32_w]
            rfl
           refine pure_ (i := 16) (N := some 95) (v := ?_) (a' := ?_) mk_17 rfl rfl (any_of HT_.out (by kernel_rfl)) (fun _ _ _ h => h) (Or.inl ⟨by rfl, ?_⟩) ?_ ?_
           rotate_left
           ·intro w'
            go_simp
            with_reducible rfl
           rotate_left
           ·simp only [Act.put, List.setIfInBounds_toArray, List.set_cons_zero, List.set_cons_succ, i64_w, i32_w]
            rfl
           refine pure_ (i := 17) (N := some 96) (v := ?_) (a' := ?_) mk_18 rfl rfl (any_of HT_.out (by kernel_rfl)) (fun _ _ _ h => h) (Or.inl ⟨by rfl, ?_⟩) ?_ ?_
           rotate_left
           ·intro w'
            go_simp
            with_reducible rfl
           rotate_left
           ·simp only [Act.put, List.setIfInBounds_toArray, List.set_cons_zero, List.set_cons_succ, i64_w, i32_w]
            rfl
           refine pure_ (i := 18) (N := some 97) (v := ?_) (a' := ?_) mk_19 rfl rfl (any_of HT_.out (by kernel_rfl)) (fun _ _ _ h => h) (Or.inl ⟨by rfl, ?_⟩) ?_ ?_
           rotate_left
           ·intro w'
            go_simp
            with_reducible rfl
           rotate_left
           ·simp only [Act.put, List.setIfInBounds_toArray, List.set_cons_zero, List.set_cons_succ, i64_w, i32_w]
            rfl
           refine pure_ (i := 19) (N := some 98) (v := ?_) (a' := ?_) mk_20 rfl rfl (any_of HT_.out (by kernel_rfl)) (fun _ _ _ h => h) (Or.inl ⟨by rfl, ?_⟩) ?_ ?_
           rotate_left
           ·intro w'
            go_simp
            with_reducible rfl
           rotate_left
           ·simp only [Act.put, List.setIfInBounds_toArray, List.set_cons_zero, List.set_cons_succ, i64_w, i32_w]
            rfl
           refine pure_ (i := 20) (N := some 99) (v := ?_) (a' := ?_) mk_21 rfl rfl (any_of HT_.out (by kernel_rfl)) (fun _ _ _ h => h) (Or.inl ⟨by rfl, ?_⟩) ?_ ?_
           rotate_left
           ·intro w'
            go_simp
            with_reducible rfl
           rotate_left
           ·simp only [Act.put, List.setIfInBounds_toArray, List.set_cons_zero, List.set_cons_succ, i64_w, i32_w]
            rfl
           refine pure_ (i := 21) (N := some 100) (v := ?_) (a' := ?_) mk_22 rfl rfl (any_of HT_.out (by kernel_rfl)) (fun _ _ _ h => h) (Or.inl ⟨by rfl, ?_⟩) ?_ ?_
           rotate_left
           ·intro w'
            go_simp
            with_reducible rfl
           rotate_left
           ·simp only [Act.put, List.setIfInBounds_toArray, List.set_cons_zero, List.set_cons_succ, i64_w, i32_w]
            rfl
           refine pure_ (i := 22) (N := some 101) (v := ?_) (a' := ?_) mk_23 rfl rfl (any_of HT_.out (by kernel_rfl)) (fun _ _ _ h => h) (Or.inl ⟨by rfl, ?_⟩) ?_ ?_
           rotate_left
           ·intro w'
            go_simp
            with_reducible rfl
           rotate_left
           ·simp only [Act.put, List.setIfInBounds_toArray, List.set_cons_zero, List.set_cons_succ, i64_w, i32_w]
            rfl
           refine take_ (i := 23) (N := some 102) (v := ?_) (a' := ?_) mk_24 rfl rfl (take_ofW HT_.out HW_.out (by kernel_rfl)) (fun _ _ _ h => h) (Or.inl ⟨by rfl, ?_⟩) hHeld ?_ ?_
           rotate_left
           ·rintro w' ⟨s0, s1, s2, s3, s4, s5, s6, s7, s8, s9, s10, s11, s12, s13, s14, s15, s16, s17, s18, s19⟩
            go_simp
            with_reducible rfl
           rotate_left
           ·simp only [Act.put, List.setIfInBounds_toArray, List.set_cons_zero, List.set_cons_succ, i64_w, i32_w]
            rfl
           refine take_ (i := 24) (N := some 103) (v := ?_) (a' := ?_) mk_25 rfl rfl (take_ofW HT_.out HW_.out (by kernel_rfl)) (fun _ _ _ h => h) (Or.inl ⟨by rfl, ?_⟩) hHeld ?_ ?_
           rotate_left
           ·rintro w' ⟨s0, s1, s2, s3, s4, s5, s6, s7, s8, s9, s10, s11, s12, s13, s14, s15, s16, s17, s18, s19⟩
            go_simp
            with_reducible rfl
           rotate_left
           ·simp only [Act.put, List.setIfInBounds_toArray, List.set_cons_zero, List.set_cons_succ, i64_w, i32_w]
            rfl
           refine pure_ (i := 25) (N := some 104) (v := ?_) (a' := ?_) mk_26 rfl rfl (any_of HT_.out (by kernel_rfl)) (fun _ _ _ h => h) (Or.inl ⟨by rfl, ?_⟩) ?_ ?_
           rotate_left
           ·intro w'
            go_simp
            with_reducible rfl
           rotate_left
           ·simp only [Act.put, List.setIfInBounds_toArray, List.set_cons_zero, List.set_cons_succ, i64_w, i32_w]
            rfl
           refine pure_ (i := 26) (N := some 105) (v := ?_) (a' := ?_) mk_27 rfl rfl (any_of HT_.out (by kernel_rfl)) (fun _ _ _ h => h) (Or.inl ⟨by rfl, ?_⟩) ?_ ?_
           rotate_left
           ·intro w'
            go_simp
            with_reducible rfl
           rotate_left
           ·simp only [Act.put, List.setIfInBounds_toArray, List.set_cons_zero, List.set_cons_succ, i64_w, i32_w]
            rfl
           refine pure_ (i := 27) (N := some 106) (v := ?_) (a' := ?_) mk_28 rfl rfl (any_of HT_.out (by kernel_rfl)) (fun _ _ _ h => h) (Or.inl ⟨by rfl, ?_⟩) ?_ ?_
           rotate_left
           ·intro w'
            go_simp
            with_reducible rfl
           rotate_left
           ·simp only [Act.put, List.setIfInBounds_toArray, List.set_cons_zero, List.set_cons_succ, i64_w, i32_w]
            rfl
           refine pure_ (i := 28) (N := some 107) (v := ?_) (a' := ?_) mk_29 rfl rfl (any_of HT_.out (by kernel_rfl)) (fun _ _ _ h => h) (Or.inl ⟨by rfl, ?_⟩) ?_ ?_
           rotate_left
           ·intro w'
            go_simp
            with_reducible rfl
           rotate_left
           ·simp only [Act.put, List.setIfInBounds_toArray, List.set_cons_zero, List.set_cons_succ, i64_w, i32_w]
            rfl
           refine pure_ (i := 29) (N := some 108) (v := ?_) (a' := ?_) mk_30 rfl rfl (any_of HT_.out (by kernel_rfl)) (fun _ _ _ h => h) (Or.inl ⟨by rfl, ?_⟩) ?_ ?_
           rotate_left
           ·intro w'
            go_simp
            with_reducible rfl
           rotate_left
           ·simp only [Act.put, List.setIfInBounds_toArray, List.set_cons_zero, List.set_cons_succ, i64_w, i32_w]
            rfl
           refine pure_ (i := 30) (N := some 109) (v := ?_) (a' := ?_) mk_31 rfl rfl (any_of HT_.out (by kernel_rfl)) (fun _ _ _ h => h) (Or.inl ⟨by rfl, ?_⟩) ?_ ?_
           rotate_left
           ·intro w'
            go_simp
            with_reducible rfl
           rotate_left
           ·simp only [Act.put, List.setIfInBounds_toArray, List.set_cons_zero, List.set_cons_succ, i64_w, i32_w]
            rfl
           refine pure_ (i := 31) (N := some 110) (v := ?_) (a' := ?_) mk_32 rfl rfl (any_of HT_.out (by kernel_rfl)) (fun _ _ _ h => h) (Or.inl ⟨by rfl, ?_⟩) ?_ ?_
           rotate_left
           ·intro w'
            go_simp
            with_reducible rfl
           rotate_left
           ·simp only [Act.put, List.setIfInBounds_toArray, List.set_cons_zero, List.set_cons_succ, i64_w, i32_w]
            rfl
           refine pure_ (i := 32) (N := some 111) (v := ?_) (a' := ?_) mk_33 rfl rfl (any_of HT_.out (by kernel_rfl)) (fun _ _ _ h => h) (Or.inl ⟨by rfl, ?_⟩) ?_ ?_
           rotate_left
           ·intro w'
            go_simp
            with_reducible rfl
           rotate_left
           ·simp only [Act.put, List.setIfInBounds_toArray, List.set_cons_zero, List.set_cons_succ, i64_w, i32_w]
            rfl
           refine pure_ (i := 33) (N := some 112) (v := undef) (a' := ?_) mk_34 rfl rfl (any_of HT_.out (by kernel_rfl)) (fun _ _ _ h => h) (Or.inr ⟨by rfl, rfl⟩) ?_ ?_
           rotate_left
           ·simp only [Act.put, List.setIfInBounds_toArray, List.set_cons_zero, List.set_cons_succ, i64_w, i32_w]
            rfl
           refine pure_ (i := 34) (N := some 113) (v := undef) (a' := ?_) mk_41 rfl rfl (any_of HT_.out (by kernel_rfl)) (fun _ _ _ h => h) (Or.inr ⟨by rfl, rfl⟩) ?_ ?_
           rotate_left
           ·simp only [Act.put, List.setIfInBounds_toArray, List.set_cons_zero, List.set_cons_succ, i64_w, i32_w]
            rfl
           refine pure_ (i := 35) (N := some 114) (v := undef) (a' := ?_) mk_36 rfl rfl (any_of HT_.out (by kernel_rfl)) (fun _ _ _ h => h) (Or.inr ⟨by rfl, rfl⟩) ?_ ?_
           rotate_left
           ·simp only [Act.put, List.setIfInBounds_toArray, List.set_cons_zero, List.set_cons_succ, i64_w, i32_w]
            rfl
           refine pure_ (i := 36) (N := some 115) (v := undef) (a' := ?_) mk_37 rfl rfl (any_of HT_.out (by kernel_rfl)) (fun _ _ _ h => h) (Or.inr ⟨by rfl, rfl⟩) ?_ ?_
           rotate_left
           ·simp only [Act.put, List.setIfInBounds_toArray, List.set_cons_zero, List.set_cons_succ, i64_w, i32_w]
            rfl
           refine pure_ (i := 37) (N := some 116) (v := undef) (a' := ?_) mk_38 rfl rfl (any_of HT_.out (by kernel_rfl)) (fun _ _ _ h => h) (Or.inr ⟨by rfl, rfl⟩) ?_ ?_
           rotate_left
           ·simp only [Act.put, List.setIfInBounds_toArray, List.set_cons_zero, List.set_cons_succ, i64_w, i32_w]
            rfl
           refine pure_ (i := 38) (N := some 117) (v := ?_) (a' := ?_) mk_39 rfl rfl (any_of HT_.out (by kernel_rfl)) (fun _ _ _ h => h) (Or.inl ⟨by rfl, ?_⟩) ?_ ?_
           rotate_left
           ·intro w'
            go_simp
            with_reducible rfl
           rotate_left
           ·simp only [Act.put, List.setIfInBounds_toArray, List.set_cons_zero, List.set_cons_succ, i64_w, i32_w]
            rfl
           refine pure_ (i := 39) (N := some 12) (v := ?_) (a' := ?_) mk_40 rfl rfl (any_of HT_.out (by kernel_rfl)) (fun _ _ _ h => h) (Or.inl ⟨by rfl, ?_⟩) ?_ ?_
           rotate_left
           ·intro w'
            go_simp
            with_reducible rfl
           rotate_left
           ·simp only [Act.put, List.setIfInBounds_toArray, List.set_cons_zero, List.set_cons_succ, i64_w, i32_w]
            rfl
           refine done_ (done_of HT_.out (by kernel_rfl)) ?_
           try go_wp2
           go_ret
           exact ⟨by first | rfl | (simp [errW_none, errW_some] <;> rfl) | (simp [*, errW_none, errW_some] <;> rfl), bl⟩
         ·rw [if_neg c36] at H
          have c36b0 : (t244 == t250 && (t245 == t251 && (t246.toList == t252.toList && (t247.toList == t253.toList)))) = false := by simpa using c36
          (try (have c36b1 : decide (t244 = t250 && (t245 == t251 && (t246.toList == t252.toList && (t247.toList == t253.toList)))) = false := by simpa using c36))
          (try (have c36b2 : (t244 == t250 && (t245 == t251 && (t246.toList == t252.toList && (t247.toList == t253.toList)))) = false := by simpa using c36))
          (try (have c36b3 : ¬ (t244 = t250 && (t245 == t251 && (t246.toList == t252.toList && (t247.toList == t253.toList)))) := by simpa using c36))
          clear c36
          obtain rfl := Option.some.inj H
          refine start_ (n := 40) (S := fun w' => w'.cell? ⟨gb230, 0, none⟩ = some (.int .i64 a0_0) ∧ w'.cell? ⟨gb230, 1, none⟩ = some (.bool a0_1) ∧ w'.cell? ⟨gb230, 2, none⟩ = some (.string a0_2) ∧ w'.cell? ⟨gb230, 3, none⟩ = some (.string a0_3) ∧ w'.cell? ⟨gb237, 0, none⟩ = some (.int .i64 t232) ∧ w'.cell? ⟨gb237, 1, none⟩ = some (.bool t233) ∧ w'.cell? ⟨gb237, 2, none⟩ = some (.string t234) ∧ w'.cell? ⟨gb237, 3, none⟩ = some (.string t235) ∧ w'.cell? ⟨gb243, 0, none⟩ = some (.int .i64 t238) ∧ w'.cell? ⟨gb243, 1, none⟩ = some (.bool t239) ∧ w'.cell? ⟨gb243, 2, none⟩ = some (.string t240) ∧ w'.cell? ⟨gb243, 3, none⟩ = some (.string t241) ∧ w'.cell? ⟨gb249, 0, none⟩ = some (.int .i64 t244) ∧ w'.cell? ⟨gb249, 1, none⟩ = some (.bool t245) ∧ w'.cell? ⟨gb249, 2, none⟩ = some (.string t246) ∧ w'.cell? ⟨gb249, 3, none⟩ = some (.string t247) ∧ w'.cell? ⟨gb255, 0, none⟩ = some (.int .i64 t250) ∧ w'.cell? ⟨gb255, 1, none⟩ = some (.bool t251) ∧ w'.cell? ⟨gb255, 2, none⟩ = some (.string t252) ∧ w'.cell? ⟨gb255, 3, none⟩ = some (.string t253)) (ds := []) mk_0 (by kernel_rfl) rfl rfl ⟨(blk_cell BK230.out 0).trans rfl, (blk_cell BK230.out 1).trans rfl, (blk_cell BK230.out 2).trans rfl, (blk_cell BK230.out 3).trans rfl, (blk_cell BK237.out 0).trans rfl, (blk_cell BK237.out 1).trans rfl, (blk_cell BK237.out 2).trans rfl, (blk_cell BK237.out 3).trans rfl, (blk_cell BK243.out 0).trans rfl, (blk_cell BK243.out 1).trans rfl, (blk_cell BK243.out 2).trans rfl, (blk_cell BK243.out 3).trans rfl, (blk_cell BK249.out 0).trans rfl, (blk_cell BK249.out 1).trans rfl, (blk_cell BK249.out 2).trans rfl, (blk_cell BK249.out 3).trans rfl, (blk_cell BK255.out 0).trans rfl, (blk_cell BK255.out 1).trans rfl, (blk_cell BK255.out 2).trans rfl, (blk_cell BK255.out 3).trans rfl⟩ (fun hHeld => ?_); refine with_tabW targumlaw5_DecTells.tab9 targumlaw5_DecTells.bits9 (fun HT_ HW_ => ?_)
          generalize w62.drew = w121 at BK230 BK237 BK243 BK249 BK255 HB hHeld ⊢
          refine take_ (i := 0) (N := some 79) (v := ?_) (a' := ?_) mk_1 rfl rfl (take_ofW HT_.out HW_.out (by kernel_rfl)) (fun _ _ _ h => h) (Or.inl ⟨by rfl, ?_⟩) hHeld ?_ ?_
          rotate_left
          ·rintro w' ⟨s0, s1, s2, s3, s4, s5, s6, s7, s8, s9, s10, s11, s12, s13, s14, s15, s16, s17, s18, s19⟩
           go_simp
           with_reducible rfl
          rotate_left
          ·simp only [Act.put, List.setIfInBounds_toArray, List.set_cons_zero, List.set_cons_succ, i64_w, i32_w]
           rfl
          refine take_ (i := 2) (N := some 81) (v := ?_) (a' := ?_) mk_2 rfl rfl (take_ofW HT_.out HW_.out (by kernel_rfl)) (fun _ _ _ h => h) (Or.inl ⟨by rfl, ?_⟩) hHeld ?_ ?_
          rotate_left
          ·rintro w' ⟨s0, s1, s2, s3, s4, s5, s6, s7, s8, s9, s10, s11, s12, s13, s14, s15, s16, s17, s18, s19⟩
           go_simp
           with_reducible rfl
          rotate_left
          ·simp only [Act.put, List.setIfInBounds_toArray, List.set_cons_zero, List.set_cons_succ, i64_w, i32_w]
           rfl
          refine one_ (i := 1) (N := some 80) mk_3 rfl rfl (one_of HT_.out (by kernel_rfl)) (by decide) (fun K hK => ?_)
          refine goes_ Tryd.func33 (by kernel_rfl) rfl #[.agg #[.int .i64 a0_0, .bool a0_1, .string a0_2, .string a0_3]] (by rfl) rfl rfl (by (try simp only [List.map_toArray, List.map_cons, List.map_nil]); first | done | rfl | (simp only [List.length_drop, List.length_take]; rfl)) ?_
          with_reducible refine (dec_Good.calls kj8 a0_0 a0_1 a0_2 a0_3 t256 _ A28.out).mono ?_
          rintro e w122 ⟨rfl, hb⟩
          refine ⟨_, rfl, ?_⟩
          have n0_ := Aside0.mk (blk_below (g := gb230) (o := .cells #[.int .i64 a0_0, .bool a0_1, .string a0_2, .string a0_3] 40 (0, 0)) bk hb)
          have n1_ := Aside0.mk (blk_below (g := gb237) (o := .cells #[.int .i64 t232, .bool t233, .string t234, .string t235] 40 (0, 0)) bk hb)
          have n2_ := Aside0.mk (blk_below (g := gb243) (o := .cells #[.int .i64 t238, .bool t239, .string t240, .string t241] 40 (0, 0)) bk hb)
          have n3_ := Aside0.mk (blk_below (g := gb249) (o := .cells #[.int .i64 t244, .bool t245, .string t246, .string t247] 40 (0, 0)) bk hb)
          have n4_ := Aside0.mk (blk_below (g := gb255) (o := .cells #[.int .i64 t250, .bool t251, .string t252, .string t253] 40 (0, 0)) bk hb)
          have n5_ := Aside0.mk (below_step bl hb)
          clear BK230
          clear BK237
          clear BK243
          clear BK249
          clear BK255
          clear HB
          have BK230 := n0_
          have BK237 := n1_
          have BK243 := n2_
          have BK249 := n3_
          have BK255 := n4_
          have HB := n5_
          clear n0_ n1_ n2_ n3_ n4_ n5_
          (try clear hb)
          (try clear hb2)
          (try clear hk)
          (try clear hi)
          refine hK.out _ _ ⟨(blk_cell BK230.out 0).trans rfl, (blk_cell BK230.out 1).trans rfl, (blk_cell BK230.out 2).trans rfl, (blk_cell BK230.out 3).trans rfl, (blk_cell BK237.out 0).trans rfl, (blk_cell BK237.out 1).trans rfl, (blk_cell BK237.out 2).trans rfl, (blk_cell BK237.out 3).trans rfl, (blk_cell BK243.out 0).trans rfl, (blk_cell BK243.out 1).trans rfl, (blk_cell BK243.out 2).trans rfl, (blk_cell BK243.out 3).trans rfl, (blk_cell BK249.out 0).trans rfl, (blk_cell BK249.out 1).trans rfl, (blk_cell BK249.out 2).trans rfl, (blk_cell BK249.out 3).trans rfl, (blk_cell BK255.out 0).trans rfl, (blk_cell BK255.out 1).trans rfl, (blk_cell BK255.out 2).trans rfl, (blk_cell BK255.out 3).trans rfl⟩ (fun hHeld => ?_)
          clear hK K
          refine norm_ (a' := ?_) ?_ ?_
          rotate_left
          ·show Act.put _ (some 80) _ = _
           simp only [Act.put, List.setIfInBounds_toArray, List.set_cons_zero, List.set_cons_succ, i64_w, i32_w]
           rfl
          refine one_ (i := 3) (N := some 82) mk_4 rfl rfl (one_of HT_.out (by kernel_rfl)) (by decide) (fun K hK => ?_)
          refine goes_ Tryd.func34 (by kernel_rfl) rfl #[.agg #[.int .i64 a0_0, .bool a0_1, .string a0_2, .string a0_3]] (by rfl) rfl rfl (by (try simp only [List.map_toArray, List.map_cons, List.map_nil]); first | done | rfl | (simp only [List.length_drop, List.length_take]; rfl)) ?_
          with_reducible refine (targumref4_Dec.calls kj8 a0_0 a0_1 a0_2 a0_3 t257 _ A29.out).mono ?_
          rintro e w123 ⟨rfl, hb⟩
          refine ⟨_, rfl, ?_⟩
          have n0_ := Aside0.mk (blk_below (g := gb230) (o := .cells #[.int .i64 a0_0, .bool a0_1, .string a0_2, .string a0_3] 40 (0, 0)) bk hb)
          have n1_ := Aside0.mk (blk_below (g := gb237) (o := .cells #[.int .i64 t232, .bool t233, .string t234, .string t235] 40 (0, 0)) bk hb)
          have n2_ := Aside0.mk (blk_below (g := gb243) (o := .cells #[.int .i64 t238, .bool t239, .string t240, .string t241] 40 (0, 0)) bk hb)
          have n3_ := Aside0.mk (blk_below (g := gb249) (o := .cells #[.int .i64 t244, .bool t245, .string t246, .string t247] 40 (0, 0)) bk hb)
          have n4_ := Aside0.mk (blk_below (g := gb255) (o := .cells #[.int .i64 t250, .bool t251, .string t252, .string t253] 40 (0, 0)) bk hb)
          have n5_ := Aside0.mk (below_step bl hb)
          clear BK230
          clear BK237
          clear BK243
          clear BK249
          clear BK255
          clear HB
          have BK230 := n0_
          have BK237 := n1_
          have BK243 := n2_
          have BK249 := n3_
          have BK255 := n4_
          have HB := n5_
          clear n0_ n1_ n2_ n3_ n4_ n5_
          (try clear hb)
          (try clear hb2)
          (try clear hk)
          (try clear hi)
          refine hK.out _ _ ⟨(blk_cell BK230.out 0).trans rfl, (blk_cell BK230.out 1).trans rfl, (blk_cell BK230.out 2).trans rfl, (blk_cell BK230.out 3).trans rfl, (blk_cell BK237.out 0).trans rfl, (blk_cell BK237.out 1).trans rfl, (blk_cell BK237.out 2).trans rfl, (blk_cell BK237.out 3).trans rfl, (blk_cell BK243.out 0).trans rfl, (blk_cell BK243.out 1).trans rfl, (blk_cell BK243.out 2).trans rfl, (blk_cell BK243.out 3).trans rfl, (blk_cell BK249.out 0).trans rfl, (blk_cell BK249.out 1).trans rfl, (blk_cell BK249.out 2).trans rfl, (blk_cell BK249.out 3).trans rfl, (blk_cell BK255.out 0).trans rfl, (blk_cell BK255.out 1).trans rfl, (blk_cell BK255.out 2).trans rfl, (blk_cell BK255.out 3).trans rfl⟩ (fun hHeld => ?_)
          clear hK K
          refine norm_ (a' := ?_) ?_ ?_
          rotate_left
          ·show Act.put _ (some 82) _ = _
           simp only [Act.put, List.setIfInBounds_toArray, List.set_cons_zero, List.set_cons_succ, i64_w, i32_w]
           rfl
          refine pure_ (i := 4) (N := some 83) (v := ?_) (a' := ?_) mk_5 rfl rfl (any_of HT_.out (by kernel_rfl)) (fun _ _ _ h => h) (Or.inl ⟨by rfl, ?_⟩) ?_ ?_
          rotate_left
          ·intro w'
           go_simp
           with_reducible rfl
          rotate_left
          ·simp only [Act.put, List.setIfInBounds_toArray, List.set_cons_zero, List.set_cons_succ, i64_w, i32_w]
           rfl
          refine pure_ (i := 5) (N := some 84) (v := ?_) (a' := ?_) mk_6 rfl rfl (any_of HT_.out (by kernel_rfl)) (fun _ _ _ h => h) (Or.inl ⟨by rfl, ?_⟩) ?_ ?_
          rotate_left
          ·intro w'
           go_simp
           with_reducible rfl
          rotate_left
          ·simp only [Act.put, List.setIfInBounds_toArray, List.set_cons_zero, List.set_cons_succ, i64_w, i32_w]
           rfl
          refine take_ (i := 6) (N := some 85) (v := ?_) (a' := ?_) mk_7 rfl rfl (take_ofW HT_.out HW_.out (by kernel_rfl)) (fun _ _ _ h => h) (Or.inl ⟨by rfl, ?_⟩) hHeld ?_ ?_
          rotate_left
          ·rintro w' ⟨s0, s1, s2, s3, s4, s5, s6, s7, s8, s9, s10, s11, s12, s13, s14, s15, s16, s17, s18, s19⟩
           go_simp
           with_reducible rfl
          rotate_left
          ·simp only [Act.put, List.setIfInBounds_toArray, List.set_cons_zero, List.set_cons_succ, i64_w, i32_w]
           rfl
          refine take_ (i := 8) (N := some 87) (v := ?_) (a' := ?_) mk_8 rfl rfl (take_ofW HT_.out HW_.out (by kernel_rfl)) (fun _ _ _ h => h) (Or.inl ⟨by rfl, ?_⟩) hHeld ?_ ?_
          rotate_left
          ·rintro w' ⟨s0, s1, s2, s3, s4, s5, s6, s7, s8, s9, s10, s11, s12, s13, s14, s15, s16, s17, s18, s19⟩
           go_simp
           with_reducible rfl
          rotate_left
          ·simp only [Act.put, List.setIfInBounds_toArray, List.set_cons_zero, List.set_cons_succ, i64_w, i32_w]
           rfl
          refine one_ (i := 7) (N := some 86) mk_9 rfl rfl (one_of HT_.out (by kernel_rfl)) (by decide) (fun K hK => ?_)
          refine goes_ Tryd.func35 (by kernel_rfl) rfl #[.agg #[.int .i64 a0_0, .bool a0_1, .string a0_2, .string a0_3]] (by rfl) rfl rfl (by (try simp only [List.map_toArray, List.map_cons, List.map_nil]); first | done | rfl | (simp only [List.length_drop, List.length_take]; rfl)) ?_
          with_reducible refine (dec_Print.calls kj8 a0_0 a0_1 a0_2 a0_3 t258 _ A31.out).mono ?_
          rintro e w124 ⟨rfl, hb⟩
          refine ⟨_, rfl, ?_⟩
          have n0_ := Aside0.mk (blk_below (g := gb230) (o := .cells #[.int .i64 a0_0, .bool a0_1, .string a0_2, .string a0_3] 40 (0, 0)) bk hb)
          have n1_ := Aside0.mk (blk_below (g := gb237) (o := .cells #[.int .i64 t232, .bool t233, .string t234, .string t235] 40 (0, 0)) bk hb)
          have n2_ := Aside0.mk (blk_below (g := gb243) (o := .cells #[.int .i64 t238, .bool t239, .string t240, .string t241] 40 (0, 0)) bk hb)
          have n3_ := Aside0.mk (blk_below (g := gb249) (o := .cells #[.int .i64 t244, .bool t245, .string t246, .string t247] 40 (0, 0)) bk hb)
          have n4_ := Aside0.mk (blk_below (g := gb255) (o := .cells #[.int .i64 t250, .bool t251, .string t252, .string t253] 40 (0, 0)) bk hb)
          have n5_ := Aside0.mk (below_step bl hb)
          clear BK230
          clear BK237
          clear BK243
          clear BK249
          clear BK255
          clear HB
          have BK230 := n0_
          have BK237 := n1_
          have BK243 := n2_
          have BK249 := n3_
          have BK255 := n4_
          have HB := n5_
          clear n0_ n1_ n2_ n3_ n4_ n5_
          (try clear hb)
          (try clear hb2)
          (try clear hk)
          (try clear hi)
          refine hK.out _ _ ⟨(blk_cell BK230.out 0).trans rfl, (blk_cell BK230.out 1).trans rfl, (blk_cell BK230.out 2).trans rfl, (blk_cell BK230.out 3).trans rfl, (blk_cell BK237.out 0).trans rfl, (blk_cell BK237.out 1).trans rfl, (blk_cell BK237.out 2).trans rfl, (blk_cell BK237.out 3).trans rfl, (blk_cell BK243.out 0).trans rfl, (blk_cell BK243.out 1).trans rfl, (blk_cell BK243.out 2).trans rfl, (blk_cell BK243.out 3).trans rfl, (blk_cell BK249.out 0).trans rfl, (blk_cell BK249.out 1).trans rfl, (blk_cell BK249.out 2).trans rfl, (blk_cell BK249.out 3).trans rfl, (blk_cell BK255.out 0).trans rfl, (blk_cell BK255.out 1).trans rfl, (blk_cell BK255.out 2).trans rfl, (blk_cell BK255.out 3).trans rfl⟩ (fun hHeld => ?_)
          clear hK K
          refine norm_ (a' := ?_) ?_ ?_
          rotate_left
          ·show Act.put _ (some 86) _ = _
           simp only [Act.put, List.setIfInBounds_toArray, List.set_cons_zero, List.set_cons_succ, i64_w, i32_w]
           rfl
          refine one_ (i := 9) (N := some 88) mk_10 rfl rfl (one_of HT_.out (by kernel_rfl)) (by decide) (fun K hK => ?_)
          refine goes_ Tryd.func36 (by kernel_rfl) rfl #[.agg #[.int .i64 a0_0, .bool a0_1, .string a0_2, .string a0_3]] (by rfl) rfl rfl (by (try simp only [List.map_toArray, List.map_cons, List.map_nil]); first | done | rfl | (simp only [List.length_drop, List.length_take]; rfl)) ?_
          with_reducible refine (targumref4_Print.calls kj8 a0_0 a0_1 a0_2 a0_3 t259 _ A32.out).mono ?_
          rintro e w125 ⟨rfl, hb⟩
          refine ⟨_, rfl, ?_⟩
          have n0_ := Aside0.mk (blk_below (g := gb230) (o := .cells #[.int .i64 a0_0, .bool a0_1, .string a0_2, .string a0_3] 40 (0, 0)) bk hb)
          have n1_ := Aside0.mk (blk_below (g := gb237) (o := .cells #[.int .i64 t232, .bool t233, .string t234, .string t235] 40 (0, 0)) bk hb)
          have n2_ := Aside0.mk (blk_below (g := gb243) (o := .cells #[.int .i64 t238, .bool t239, .string t240, .string t241] 40 (0, 0)) bk hb)
          have n3_ := Aside0.mk (blk_below (g := gb249) (o := .cells #[.int .i64 t244, .bool t245, .string t246, .string t247] 40 (0, 0)) bk hb)
          have n4_ := Aside0.mk (blk_below (g := gb255) (o := .cells #[.int .i64 t250, .bool t251, .string t252, .string t253] 40 (0, 0)) bk hb)
          have n5_ := Aside0.mk (below_step bl hb)
          clear BK230
          clear BK237
          clear BK243
          clear BK249
          clear BK255
          clear HB
          have BK230 := n0_
          have BK237 := n1_
          have BK243 := n2_
          have BK249 := n3_
          have BK255 := n4_
          have HB := n5_
          clear n0_ n1_ n2_ n3_ n4_ n5_
          (try clear hb)
          (try clear hb2)
          (try clear hk)
          (try clear hi)
          refine hK.out _ _ ⟨(blk_cell BK230.out 0).trans rfl, (blk_cell BK230.out 1).trans rfl, (blk_cell BK230.out 2).trans rfl, (blk_cell BK230.out 3).trans rfl, (blk_cell BK237.out 0).trans rfl, (blk_cell BK237.out 1).trans rfl, (blk_cell BK237.out 2).trans rfl, (blk_cell BK237.out 3).trans rfl, (blk_cell BK243.out 0).trans rfl, (blk_cell BK243.out 1).trans rfl, (blk_cell BK243.out 2).trans rfl, (blk_cell BK243.out 3).trans rfl, (blk_cell BK249.out 0).trans rfl, (blk_cell BK249.out 1).trans rfl, (blk_cell BK249.out 2).trans rfl, (blk_cell BK249.out 3).trans rfl, (blk_cell BK255.out 0).trans rfl, (blk_cell BK255.out 1).trans rfl, (blk_cell BK255.out 2).trans rfl, (blk_cell BK255.out 3).trans rfl⟩ (fun hHeld => ?_)
          clear hK K
          refine norm_ (a' := ?_) ?_ ?_
          rotate_left
          ·show Act.put _ (some 88) _ = _
           simp only [Act.put, List.setIfInBounds_toArray, List.set_cons_zero, List.set_cons_succ, i64_w, i32_w]
           rfl
          refine pure_ (i := 10) (N := some 89) (v := ?_) (a' := ?_) mk_11 rfl rfl (any_of HT_.out (by kernel_rfl)) (fun _ _ _ h => h) (Or.inl ⟨by rfl, ?_⟩) ?_ ?_
          rotate_left
          ·intro w'
           go_simp
           with_reducible rfl
          rotate_left
          ·simp only [Act.put, List.setIfInBounds_toArray, List.set_cons_zero, List.set_cons_succ, i64_w, i32_w]
           rfl
          refine pure_ (i := 11) (N := some 90) (v := ?_) (a' := ?_) mk_12 rfl rfl (any_of HT_.out (by kernel_rfl)) (fun _ _ _ h => h) (Or.inl ⟨by rfl, ?_⟩) ?_ ?_
          rotate_left
          ·intro w'
           go_simp
           with_reducible rfl
          rotate_left
          ·simp only [Act.put, List.setIfInBounds_toArray, List.set_cons_zero, List.set_cons_succ, i64_w, i32_w]
           rfl
          refine pure_ (i := 12) (N := some 91) (v := ?_) (a' := ?_) mk_13 rfl rfl (any_of HT_.out (by kernel_rfl)) (fun _ _ _ h => h) (Or.inl ⟨by rfl, ?_⟩) ?_ ?_
          rotate_left
          ·intro w'
           go_simp
           with_reducible rfl
          rotate_left
          ·simp only [Act.put, List.setIfInBounds_toArray, List.set_cons_zero, List.set_cons_succ, i64_w, i32_w]
           rfl
          refine take_ (i := 13) (N := some 92) (v := ?_) (a' := ?_) mk_14 rfl rfl (take_ofW HT_.out HW_.out (by kernel_rfl)) (fun _ _ _ h => h) (Or.inl ⟨by rfl, ?_⟩) hHeld ?_ ?_
          rotate_left
          ·rintro w' ⟨s0, s1, s2, s3, s4, s5, s6, s7, s8, s9, s10, s11, s12, s13, s14, s15, s16, s17, s18, s19⟩
           go_simp
           with_reducible rfl
          rotate_left
          ·simp only [Act.put, List.setIfInBounds_toArray, List.set_cons_zero, List.set_cons_succ, i64_w, i32_w]
           rfl
          refine take_ (i := 14) (N := some 93) (v := ?_) (a' := ?_) mk_15 rfl rfl (take_ofW HT_.out HW_.out (by kernel_rfl)) (fun _ _ _ h => h) (Or.inl ⟨by rfl, ?_⟩) hHeld ?_ ?_
          rotate_left
          ·rintro w' ⟨s0, s1, s2, s3, s4, s5, s6, s7, s8, s9, s10, s11, s12, s13, s14, s15, s16, s17, s18, s19⟩
           go_simp
           with_reducible rfl
          rotate_left
          ·simp only [Act.put, List.setIfInBounds_toArray, List.set_cons_zero, List.set_cons_succ, i64_w, i32_w]
           rfl
          refine pure_ (i := 15) (N := some 94) (v := ?_) (a' := ?_) mk_16 rfl rfl (any_of HT_.out (by kernel_rfl)) (fun _ _ _ h => h) (Or.inl ⟨by rfl, ?_⟩) ?_ ?_
          rotate_left
          ·intro w'
           go_simp
           with_reducible rfl
          rotate_left
          ·simp only [Act.put, List.setIfInBounds_toArray, List.set_cons_zero, List.set_cons_succ, i64_w, i32_w]
           rfl
          refine pure_ (i := 16) (N := some 95) (v := ?_) (a' := ?_) mk_17 rfl rfl (any_of HT_.out (by kernel_rfl)) (fun _ _ _ h => h) (Or.inl ⟨by rfl, ?_⟩) ?_ ?_
          rotate_left
          ·intro w'
           go_simp
           with_reducible rfl
          rotate_left
          ·simp only [Act.put, List.setIfInBounds_toArray, List.set_cons_zero, List.set_cons_succ, i64_w, i32_w]
           rfl
          refine pure_ (i := 17) (N := some 96) (v := ?_) (a' := ?_) mk_18 rfl rfl (any_of HT_.out (by kernel_rfl)) (fun _ _ _ h => h) (Or.inl ⟨by rfl, ?_⟩) ?_ ?_
          rotate_left
          ·intro w'
           go_simp
           with_reducible rfl
          rotate_left
          ·simp only [Act.put, List.setIfInBounds_toArray, List.set_cons_zero, List.set_cons_succ, i64_w, i32_w]
           rfl
          refine pure_ (i := 18) (N := some 97) (v := ?_) (a' := ?_) mk_19 rfl rfl (any_of HT_.out (by kernel_rfl)) (fun _ _ _ h => h) (Or.inl ⟨by rfl, ?_⟩) ?_ ?_
          rotate_left
          ·intro w'
           go_simp
           with_reducible rfl
          rotate_left
          ·simp only [Act.put, List.setIfInBounds_toArray, List.set_cons_zero, List.set_cons_succ, i64_w, i32_w]
           rfl
          refine pure_ (i := 19) (N := some 98) (v := ?_) (a' := ?_) mk_20 rfl rfl (any_of HT_.out (by kernel_rfl)) (fun _ _ _ h => h) (Or.inl ⟨by rfl, ?_⟩) ?_ ?_
          rotate_left
          ·intro w'
           go_simp
           with_reducible rfl
          rotate_left
          ·simp only [Act.put, List.setIfInBounds_toArray, List.set_cons_zero, List.set_cons_succ, i64_w, i32_w]
           rfl
          refine pure_ (i := 20) (N := some 99) (v := ?_) (a' := ?_) mk_21 rfl rfl (any_of HT_.out (by kernel_rfl)) (fun _ _ _ h => h) (Or.inl ⟨by rfl, ?_⟩) ?_ ?_
          rotate_left
          ·intro w'
           go_simp
           with_reducible rfl
          rotate_left
          ·simp only [Act.put, List.setIfInBounds_toArray, List.set_cons_zero, List.set_cons_succ, i64_w, i32_w]
           rfl
          refine pure_ (i := 21) (N := some 100) (v := ?_) (a' := ?_) mk_22 rfl rfl (any_of HT_.out (by kernel_rfl)) (fun _ _ _ h => h) (Or.inl ⟨by rfl, ?_⟩) ?_ ?_
          rotate_left
          ·intro w'
           go_simp
           with_reducible rfl
          rotate_left
          ·simp only [Act.put, List.setIfInBounds_toArray, List.set_cons_zero, List.set_cons_succ, i64_w, i32_w]
           rfl
          refine pure_ (i := 22) (N := some 101) (v := ?_) (a' := ?_) mk_23 rfl rfl (any_of HT_.out (by kernel_rfl)) (fun _ _ _ h => h) (Or.inl ⟨by rfl, ?_⟩) ?_ ?_
          rotate_left
          ·intro w'
           go_simp
           with_reducible rfl
          rotate_left
          ·simp only [Act.put, List.setIfInBounds_toArray, List.set_cons_zero, List.set_cons_succ, i64_w, i32_w]
           rfl
          refine take_ (i := 23) (N := some 102) (v := ?_) (a' := ?_) mk_24 rfl rfl (take_ofW HT_.out HW_.out (by kernel_rfl)) (fun _ _ _ h => h) (Or.inl ⟨by rfl, ?_⟩) hHeld ?_ ?_
          rotate_left
          ·rintro w' ⟨s0, s1, s2, s3, s4, s5, s6, s7, s8, s9, s10, s11, s12, s13, s14, s15, s16, s17, s18, s19⟩
           go_simp
           with_reducible rfl
          rotate_left
          ·simp only [Act.put, List.setIfInBounds_toArray, List.set_cons_zero, List.set_cons_succ, i64_w, i32_w]
           rfl
          refine take_ (i := 24) (N := some 103) (v := ?_) (a' := ?_) mk_25 rfl rfl (take_ofW HT_.out HW_.out (by kernel_rfl)) (fun _ _ _ h => h) (Or.inl ⟨by rfl, ?_⟩) hHeld ?_ ?_
          rotate_left
          ·rintro w' ⟨s0, s1, s2, s3, s4, s5, s6, s7, s8, s9, s10, s11, s12, s13, s14, s15, s16, s17, s18, s19⟩
           go_simp
           with_reducible rfl
          rotate_left
          ·simp only [Act.put, List.setIfInBounds_toArray, List.set_cons_zero, List.set_cons_succ, i64_w, i32_w]
           rfl
          refine pure_ (i := 25) (N := some 104) (v := ?_) (a' := ?_) mk_26 rfl rfl (any_of HT_.out (by kernel_rfl)) (fun _ _ _ h => h) (Or.inl ⟨by rfl, ?_⟩) ?_ ?_
          rotate_left
          ·intro w'
           go_simp
           with_reducible rfl
          rotate_left
          ·simp only [Act.put, List.setIfInBounds_toArray, List.set_cons_zero, List.set_cons_succ, i64_w, i32_w]
           rfl
          refine pure_ (i := 26) (N := some 105) (v := ?_) (a' := ?_) mk_27 rfl rfl (any_of HT_.out (by kernel_rfl)) (fun _ _ _ h => h) (Or.inl ⟨by rfl, ?_⟩) ?_ ?_
          rotate_left
          ·intro w'
           go_simp
           with_reducible rfl
          rotate_left
          ·simp only [Act.put, List.setIfInBounds_toArray, List.set_cons_zero, List.set_cons_succ, i64_w, i32_w]
           rfl
          refine pure_ (i := 27) (N := some 106) (v := ?_) (a' := ?_) mk_28 rfl rfl (any_of HT_.out (by kernel_rfl)) (fun _ _ _ h => h) (Or.inl ⟨by rfl, ?_⟩) ?_ ?_
          rotate_left
          ·intro w'
           go_simp
           with_reducible rfl
          rotate_left
          ·simp only [Act.put, List.setIfInBounds_toArray, List.set_cons_zero, List.set_cons_succ, i64_w, i32_w]
           rfl
          refine pure_ (i := 28) (N := some 107) (v := undef) (a' := ?_) mk_29 rfl rfl (any_of HT_.out (by kernel_rfl)) (fun _ _ _ h => h) (Or.inr ⟨by rfl, rfl⟩) ?_ ?_
          rotate_left
          ·simp only [Act.put, List.setIfInBounds_toArray, List.set_cons_zero, List.set_cons_succ, i64_w, i32_w]
           rfl
          refine pure_ (i := 29) (N := some 108) (v := undef) (a' := ?_) mk_30 rfl rfl (any_of HT_.out (by kernel_rfl)) (fun _ _ _ h => h) (Or.inr ⟨by rfl, rfl⟩) ?_ ?_
          rotate_left
          ·simp only [Act.put, List.setIfInBounds_toArray, List.set_cons_zero, List.set_cons_succ, i64_w, i32_w]
           rfl
          refine pure_ (i := 30) (N := some 109) (v := undef) (a' := ?_) mk_31 rfl rfl (any_of HT_.out (by kernel_rfl)) (fun _ _ _ h => h) (Or.inr ⟨by rfl, rfl⟩) ?_ ?_
          rotate_left
          ·simp only [Act.put, List.setIfInBounds_toArray, List.set_cons_zero, List.set_cons_succ, i64_w, i32_w]
           rfl
          refine pure_ (i := 31) (N := some 110) (v := ?_) (a' := ?_) mk_32 rfl rfl (any_of HT_.out (by kernel_rfl)) (fun _ _ _ h => h) (Or.inl ⟨by rfl, ?_⟩) ?_ ?_
          rotate_left
          ·intro w'
           go_simp
           with_reducible rfl
          rotate_left
          ·simp only [Act.put, List.setIfInBounds_toArray, List.set_cons_zero, List.set_cons_succ, i64_w, i32_w]
           rfl
          refine pure_ (i := 32) (N := some 111) (v := ?_) (a' := ?_) mk_33 rfl rfl (any_of HT_.out (by kernel_rfl)) (fun _ _ _ h => h) (Or.inl ⟨by rfl, ?_⟩) ?_ ?_
          rotate_left
          ·intro w'
           go_simp
           with_reducible rfl
          rotate_left
          ·simp only [Act.put, List.setIfInBounds_toArray, List.set_cons_zero, List.set_cons_succ, i64_w, i32_w]
           rfl
          refine pure_ (i := 33) (N := some 112) (v := undef) (a' := ?_) mk_34 rfl rfl (any_of HT_.out (by kernel_rfl)) (fun _ _ _ h => h) (Or.inr ⟨by rfl, rfl⟩) ?_ ?_
          rotate_left
          ·simp only [Act.put, List.setIfInBounds_toArray, List.set_cons_zero, List.set_cons_succ, i64_w, i32_w]
           rfl
          refine pure_ (i := 34) (N := some 113) (v := undef) (a' := ?_) mk_41 rfl rfl (any_of HT_.out (by kernel_rfl)) (fun _ _ _ h => h) (Or.inr ⟨by rfl, rfl⟩) ?_ ?_
          rotate_left
          ·simp only [Act.put, List.setIfInBounds_toArray, List.set_cons_zero, List.set_cons_succ, i64_w, i32_w]
           rfl
          refine pure_ (i := 35) (N := some 114) (v := undef) (a' := ?_) mk_36 rfl rfl (any_of HT_.out (by kernel_rfl)) (fun _ _ _ h => h) (Or.inr ⟨by rfl, rfl⟩) ?_ ?_
          rotate_left
          ·simp only [Act.put, List.setIfInBounds_toArray, List.set_cons_zero, List.set_cons_succ, i64_w, i32_w]
           rfl
          refine pure_ (i := 36) (N := some 115) (v := undef) (a' := ?_) mk_37 rfl rfl (any_of HT_.out (by kernel_rfl)) (fun _ _ _ h => h) (Or.inr ⟨by rfl, rfl⟩) ?_ ?_
          rotate_left
          ·simp only [Act.put, List.setIfInBounds_toArray, List.set_cons_zero, List.set_cons_succ, i64_w, i32_w]
           rfl
          refine pure_ (i := 37) (N := some 116) (v := undef) (a' := ?_) mk_38 rfl rfl (any_of HT_.out (by kernel_rfl)) (fun _ _ _ h => h) (Or.inr ⟨by rfl, rfl⟩) ?_ ?_
          rotate_left
          ·simp only [Act.put, List.setIfInBounds_toArray, List.set_cons_zero, List.set_cons_succ, i64_w, i32_w]
           rfl
          refine pure_ (i := 38) (N := some 117) (v := ?_) (a' := ?_) mk_39 rfl rfl (any_of HT_.out (by kernel_rfl)) (fun _ _ _ h => h) (Or.inl ⟨by rfl, ?_⟩) ?_ ?_
          rotate_left
          ·intro w'
           go_simp
           with_reducible rfl
          rotate_left
          ·simp only [Act.put, List.setIfInBounds_toArray, List.set_cons_zero, List.set_cons_succ, i64_w, i32_w]
           rfl
          refine pure_ (i := 39) (N := some 12) (v := ?_) (a' := ?_) mk_40 rfl rfl (any_of HT_.out (by kernel_rfl)) (fun _ _ _ h => h) (Or.inl ⟨by rfl, ?_⟩) ?_ ?_
          rotate_left
          ·intro w'
           go_simp
           with_reducible rfl
          rotate_left
          ·simp only [Act.put, List.setIfInBounds_toArray, List.set_cons_zero, List.set_cons_succ, i64_w, i32_w]
           rfl
          refine done_ (done_of HT_.out (by kernel_rfl)) ?_
          try go_wp2
          go_ret
          exact ⟨by first | rfl | (simp [errW_none, errW_some] <;> rfl) | (simp [*, errW_none, errW_some] <;> rfl), bl⟩
        ·rw [if_neg c35] at H
         have c35b0 : (t236 == t242) = false := by simpa using c35
         (try (have c35b1 : decide (t236 = t242) = false := by simpa using c35))
         (try (have c35b2 : (t236 == t242) = false := by simpa using c35))
         (try (have c35b3 : ¬ (t236 = t242) := by simpa using c35))
         clear c35
         obtain rfl := Option.some.inj H
         refine start_ (n := 40) (S := fun w' => w'.cell? ⟨gb230, 0, none⟩ = some (.int .i64 a0_0) ∧ w'.cell? ⟨gb230, 1, none⟩ = some (.bool a0_1) ∧ w'.cell? ⟨gb230, 2, none⟩ = some (.string a0_2) ∧ w'.cell? ⟨gb230, 3, none⟩ = some (.string a0_3) ∧ w'.cell? ⟨gb237, 0, none⟩ = some (.int .i64 t232) ∧ w'.cell? ⟨gb237, 1, none⟩ = some (.bool t233) ∧ w'.cell? ⟨gb237, 2, none⟩ = some (.string t234) ∧ w'.cell? ⟨gb237, 3, none⟩ = some (.string t235) ∧ w'.cell? ⟨gb243, 0, none⟩ = some (.int .i64 t238) ∧ w'.cell? ⟨gb243, 1, none⟩ = some (.bool t239) ∧ w'.cell? ⟨gb243, 2, none⟩ = some (.string t240) ∧ w'.cell? ⟨gb243, 3, none⟩ = some (.string t241)) (ds := []) mk_0 (by kernel_rfl) rfl rfl ⟨(blk_cell BK230.out 0).trans rfl, (blk_cell BK230.out 1).trans rfl, (blk_cell BK230.out 2).trans rfl, (blk_cell BK230.out 3).trans rfl, (blk_cell BK237.out 0).trans rfl, (blk_cell BK237.out 1).trans rfl, (blk_cell BK237.out 2).trans rfl, (blk_cell BK237.out 3).trans rfl, (blk_cell BK243.out 0).trans rfl, (blk_cell BK243.out 1).trans rfl, (blk_cell BK243.out 2).trans rfl, (blk_cell BK243.out 3).trans rfl⟩ (fun hHeld => ?_); refine with_tabW targumlaw5_DecTells.tab9 targumlaw5_DecTells.bits9 (fun HT_ HW_ => ?_)
         generalize w62.drew = w149 at BK230 BK237 BK243 BK249 BK255 HB hHeld ⊢
         refine take_ (i := 0) (N := some 79) (v := ?_) (a' := ?_) mk_1 rfl rfl (take_ofW HT_.out HW_.out (by kernel_rfl)) (fun _ _ _ h => h) (Or.inl ⟨by rfl, ?_⟩) hHeld ?_ ?_
         rotate_left
         ·rintro w' ⟨s0, s1, s2, s3, s4, s5, s6, s7, s8, s9, s10, s11⟩
          go_simp
          with_reducible rfl
         rotate_left
         ·simp only [Act.put, List.setIfInBounds_toArray, List.set_cons_zero, List.set_cons_succ, i64_w, i32_w]
          rfl
         refine take_ (i := 2) (N := some 81) (v := ?_) (a' := ?_) mk_2 rfl rfl (take_ofW HT_.out HW_.out (by kernel_rfl)) (fun _ _ _ h => h) (Or.inl ⟨by rfl, ?_⟩) hHeld ?_ ?_
         rotate_left
         ·rintro w' ⟨s0, s1, s2, s3, s4, s5, s6, s7, s8, s9, s10, s11⟩
          go_simp
          with_reducible rfl
         rotate_left
         ·simp only [Act.put, List.setIfInBounds_toArray, List.set_cons_zero, List.set_cons_succ, i64_w, i32_w]
          rfl
         refine one_ (i := 1) (N := some 80) mk_3 rfl rfl (one_of HT_.out (by kernel_rfl)) (by decide) (fun K hK => ?_)
         refine goes_ Tryd.func33 (by kernel_rfl) rfl #[.agg #[.int .i64 a0_0, .bool a0_1, .string a0_2, .string a0_3]] (by rfl) rfl rfl (by (try simp only [List.map_toArray, List.map_cons, List.map_nil]); first | done | rfl | (simp only [List.length_drop, List.length_take]; rfl)) ?_
         with_reducible refine (dec_Good.calls kj8 a0_0 a0_1 a0_2 a0_3 t256 _ A28.out).mono ?_
         rintro e w150 ⟨rfl, hb⟩
         refine ⟨_, rfl, ?_⟩
         have n0_ := Aside0.mk (blk_below (g := gb230) (o := .cells #[.int .i64 a0_0, .bool a0_1, .string a0_2, .string a0_3] 40 (0, 0)) bk hb)
         have n1_ := Aside0.mk (blk_below (g := gb237) (o := .cells #[.int .i64 t232, .bool t233, .string t234, .string t235] 40 (0, 0)) bk hb)
         have n2_ := Aside0.mk (blk_below (g := gb243) (o := .cells #[.int .i64 t238, .bool t239, .string t240, .string t241] 40 (0, 0)) bk hb)
         have n3_ := Aside0.mk (blk_below (g := gb249) (o := .cells #[.int .i64 t244, .bool t245, .string t246, .string t247] 40 (0, 0)) bk hb)
         have n4_ := Aside0.mk (blk_below (g := gb255) (o := .cells #[.int .i64 t250, .bool t251, .string t252, .string t253] 40 (0, 0)) bk hb)
         have n5_ := Aside0.mk (below_step bl hb)
         clear BK230
         clear BK237
         clear BK243
         clear BK249
         clear BK255
         clear HB
         have BK230 := n0_
         have BK237 := n1_
         have BK243 := n2_
         have BK249 := n3_
         have BK255 := n4_
         have HB := n5_
         clear n0_ n1_ n2_ n3_ n4_ n5_
         (try clear hb)
         (try clear hb2)
         (try clear hk)
         (try clear hi)
         refine hK.out _ _ ⟨(blk_cell BK230.out 0).trans rfl, (blk_cell BK230.out 1).trans rfl, (blk_cell BK230.out 2).trans rfl, (blk_cell BK230.out 3).trans rfl, (blk_cell BK237.out 0).trans rfl, (blk_cell BK237.out 1).trans rfl, (blk_cell BK237.out 2).trans rfl, (blk_cell BK237.out 3).trans rfl, (blk_cell BK243.out 0).trans rfl, (blk_cell BK243.out 1).trans rfl, (blk_cell BK243.out 2).trans rfl, (blk_cell BK243.out 3).trans rfl⟩ (fun hHeld => ?_)
         clear hK K
         refine norm_ (a' := ?_) ?_ ?_
         rotate_left
         ·show Act.put _ (some 80) _ = _
          simp only [Act.put, List.setIfInBounds_toArray, List.set_cons_zero, List.set_cons_succ, i64_w, i32_w]
          rfl
         refine one_ (i := 3) (N := some 82) mk_4 rfl rfl (one_of HT_.out (by kernel_rfl)) (by decide) (fun K hK => ?_)
         refine goes_ Tryd.func34 (by kernel_rfl) rfl #[.agg #[.int .i64 a0_0, .bool a0_1, .string a0_2, .string a0_3]] (by rfl) rfl rfl (by (try simp only [List.map_toArray, List.map_cons, List.map_nil]); first | done | rfl | (simp only [List.length_drop, List.length_take]; rfl)) ?_
         with_reducible refine (targumref4_Dec.calls kj8 a0_0 a0_1 a0_2 a0_3 t257 _ A29.out).mono ?_
         rintro e w151 ⟨rfl, hb⟩
         refine ⟨_, rfl, ?_⟩
         have n0_ := Aside0.mk (blk_below (g := gb230) (o := .cells #[.int .i64 a0_0, .bool a0_1, .string a0_2, .string a0_3] 40 (0, 0)) bk hb)
         have n1_ := Aside0.mk (blk_below (g := gb237) (o := .cells #[.int .i64 t232, .bool t233, .string t234, .string t235] 40 (0, 0)) bk hb)
         have n2_ := Aside0.mk (blk_below (g := gb243) (o := .cells #[.int .i64 t238, .bool t239, .string t240, .string t241] 40 (0, 0)) bk hb)
         have n3_ := Aside0.mk (blk_below (g := gb249) (o := .cells #[.int .i64 t244, .bool t245, .string t246, .string t247] 40 (0, 0)) bk hb)
         have n4_ := Aside0.mk (blk_below (g := gb255) (o := .cells #[.int .i64 t250, .bool t251, .string t252, .string t253] 40 (0, 0)) bk hb)
         have n5_ := Aside0.mk (below_step bl hb)
         clear BK230
         clear BK237
         clear BK243
         clear BK249
         clear BK255
         clear HB
         have BK230 := n0_
         have BK237 := n1_
         have BK243 := n2_
         have BK249 := n3_
         have BK255 := n4_
         have HB := n5_
         clear n0_ n1_ n2_ n3_ n4_ n5_
         (try clear hb)
         (try clear hb2)
         (try clear hk)
         (try clear hi)
         refine hK.out _ _ ⟨(blk_cell BK230.out 0).trans rfl, (blk_cell BK230.out 1).trans rfl, (blk_cell BK230.out 2).trans rfl, (blk_cell BK230.out 3).trans rfl, (blk_cell BK237.out 0).trans rfl, (blk_cell BK237.out 1).trans rfl, (blk_cell BK237.out 2).trans rfl, (blk_cell BK237.out 3).trans rfl, (blk_cell BK243.out 0).trans rfl, (blk_cell BK243.out 1).trans rfl, (blk_cell BK243.out 2).trans rfl, (blk_cell BK243.out 3).trans rfl⟩ (fun hHeld => ?_)
         clear hK K
         refine norm_ (a' := ?_) ?_ ?_
         rotate_left
         ·show Act.put _ (some 82) _ = _
          simp only [Act.put, List.setIfInBounds_toArray, List.set_cons_zero, List.set_cons_succ, i64_w, i32_w]
          rfl
         refine pure_ (i := 4) (N := some 83) (v := ?_) (a' := ?_) mk_5 rfl rfl (any_of HT_.out (by kernel_rfl)) (fun _ _ _ h => h) (Or.inl ⟨by rfl, ?_⟩) ?_ ?_
         rotate_left
         ·intro w'
          go_simp
          with_reducible rfl
         rotate_left
         ·simp only [Act.put, List.setIfInBounds_toArray, List.set_cons_zero, List.set_cons_succ, i64_w, i32_w]
          rfl
         refine pure_ (i := 5) (N := some 84) (v := ?_) (a' := ?_) mk_6 rfl rfl (any_of HT_.out (by kernel_rfl)) (fun _ _ _ h => h) (Or.inl ⟨by rfl, ?_⟩) ?_ ?_
         rotate_left
         ·intro w'
          go_simp
          with_reducible rfl
         rotate_left
         ·simp only [Act.put, List.setIfInBounds_toArray, List.set_cons_zero, List.set_cons_succ, i64_w, i32_w]
          rfl
         refine take_ (i := 6) (N := some 85) (v := ?_) (a' := ?_) mk_7 rfl rfl (take_ofW HT_.out HW_.out (by kernel_rfl)) (fun _ _ _ h => h) (Or.inl ⟨by rfl, ?_⟩) hHeld ?_ ?_
         rotate_left
         ·rintro w' ⟨s0, s1, s2, s3, s4, s5, s6, s7, s8, s9, s10, s11⟩
          go_simp
          with_reducible rfl
         rotate_left
         ·simp only [Act.put, List.setIfInBounds_toArray, List.set_cons_zero, List.set_cons_succ, i64_w, i32_w]
          rfl
         refine take_ (i := 8) (N := some 87) (v := ?_) (a' := ?_) mk_8 rfl rfl (take_ofW HT_.out HW_.out (by kernel_rfl)) (fun _ _ _ h => h) (Or.inl ⟨by rfl, ?_⟩) hHeld ?_ ?_
         rotate_left
         ·rintro w' ⟨s0, s1, s2, s3, s4, s5, s6, s7, s8, s9, s10, s11⟩
          go_simp
          with_reducible rfl
         rotate_left
         ·simp only [Act.put, List.setIfInBounds_toArray, List.set_cons_zero, List.set_cons_succ, i64_w, i32_w]
          rfl
         refine one_ (i := 7) (N := some 86) mk_9 rfl rfl (one_of HT_.out (by kernel_rfl)) (by decide) (fun K hK => ?_)
         refine goes_ Tryd.func35 (by kernel_rfl) rfl #[.agg #[.int .i64 a0_0, .bool a0_1, .string a0_2, .string a0_3]] (by rfl) rfl rfl (by (try simp only [List.map_toArray, List.map_cons, List.map_nil]); first | done | rfl | (simp only [List.length_drop, List.length_take]; rfl)) ?_
         with_reducible refine (dec_Print.calls kj8 a0_0 a0_1 a0_2 a0_3 t258 _ A31.out).mono ?_
         rintro e w152 ⟨rfl, hb⟩
         refine ⟨_, rfl, ?_⟩
         have n0_ := Aside0.mk (blk_below (g := gb230) (o := .cells #[.int .i64 a0_0, .bool a0_1, .string a0_2, .string a0_3] 40 (0, 0)) bk hb)
         have n1_ := Aside0.mk (blk_below (g := gb237) (o := .cells #[.int .i64 t232, .bool t233, .string t234, .string t235] 40 (0, 0)) bk hb)
         have n2_ := Aside0.mk (blk_below (g := gb243) (o := .cells #[.int .i64 t238, .bool t239, .string t240, .string t241] 40 (0, 0)) bk hb)
         have n3_ := Aside0.mk (blk_below (g := gb249) (o := .cells #[.int .i64 t244, .bool t245, .string t246, .string t247] 40 (0, 0)) bk hb)
         have n4_ := Aside0.mk (blk_below (g := gb255) (o := .cells #[.int .i64 t250, .bool t251, .string t252, .string t253] 40 (0, 0)) bk hb)
         have n5_ := Aside0.mk (below_step bl hb)
         clear BK230
         clear BK237
         clear BK243
         clear BK249
         clear BK255
         clear HB
         have BK230 := n0_
         have BK237 := n1_
         have BK243 := n2_
         have BK249 := n3_
         have BK255 := n4_
         have HB := n5_
         clear n0_ n1_ n2_ n3_ n4_ n5_
         (try clear hb)
         (try clear hb2)
         (try clear hk)
         (try clear hi)
         refine hK.out _ _ ⟨(blk_cell BK230.out 0).trans rfl, (blk_cell BK230.out 1).trans rfl, (blk_cell BK230.out 2).trans rfl, (blk_cell BK230.out 3).trans rfl, (blk_cell BK237.out 0).trans rfl, (blk_cell BK237.out 1).trans rfl, (blk_cell BK237.out 2).trans rfl, (blk_cell BK237.out 3).trans rfl, (blk_cell BK243.out 0).trans rfl, (blk_cell BK243.out 1).trans rfl, (blk_cell BK243.out 2).trans rfl, (blk_cell BK243.out 3).trans rfl⟩ (fun hHeld => ?_)
         clear hK K
         refine norm_ (a' := ?_) ?_ ?_
         rotate_left
         ·show Act.put _ (some 86) _ = _
          simp only [Act.put, List.setIfInBounds_toArray, List.set_cons_zero, List.set_cons_succ, i64_w, i32_w]
          rfl
         refine one_ (i := 9) (N := some 88) mk_10 rfl rfl (one_of HT_.out (by kernel_rfl)) (by decide) (fun K hK => ?_)
         refine goes_ Tryd.func36 (by kernel_rfl) rfl #[.agg #[.int .i64 a0_0, .bool a0_1, .string a0_2, .string a0_3]] (by rfl) rfl rfl (by (try simp only [List.map_toArray, List.map_cons, List.map_nil]); first | done | rfl | (simp only [List.length_drop, List.length_take]; rfl)) ?_
         with_reducible refine (targumref4_Print.calls kj8 a0_0 a0_1 a0_2 a0_3 t259 _ A32.out).mono ?_
         rintro e w153 ⟨rfl, hb⟩
         refine ⟨_, rfl, ?_⟩
         have n0_ := Aside0.mk (blk_below (g := gb230) (o := .cells #[.int .i64 a0_0, .bool a0_1, .string a0_2, .string a0_3] 40 (0, 0)) bk hb)
         have n1_ := Aside0.mk (blk_below (g := gb237) (o := .cells #[.int .i64 t232, .bool t233, .string t234, .string t235] 40 (0, 0)) bk hb)
         have n2_ := Aside0.mk (blk_below (g := gb243) (o := .cells #[.int .i64 t238, .bool t239, .string t240, .string t241] 40 (0, 0)) bk hb)
         have n3_ := Aside0.mk (blk_below (g := gb249) (o := .cells #[.int .i64 t244, .bool t245, .string t246, .string t247] 40 (0, 0)) bk hb)
         have n4_ := Aside0.mk (blk_below (g := gb255) (o := .cells #[.int .i64 t250, .bool t251, .string t252, .string t253] 40 (0, 0)) bk hb)
         have n5_ := Aside0.mk (below_step bl hb)
         clear BK230
         clear BK237
         clear BK243
         clear BK249
         clear BK255
         clear HB
         have BK230 := n0_
         have BK237 := n1_
         have BK243 := n2_
         have BK249 := n3_
         have BK255 := n4_
         have HB := n5_
         clear n0_ n1_ n2_ n3_ n4_ n5_
         (try clear hb)
         (try clear hb2)
         (try clear hk)
         (try clear hi)
         refine hK.out _ _ ⟨(blk_cell BK230.out 0).trans rfl, (blk_cell BK230.out 1).trans rfl, (blk_cell BK230.out 2).trans rfl, (blk_cell BK230.out 3).trans rfl, (blk_cell BK237.out 0).trans rfl, (blk_cell BK237.out 1).trans rfl, (blk_cell BK237.out 2).trans rfl, (blk_cell BK237.out 3).trans rfl, (blk_cell BK243.out 0).trans rfl, (blk_cell BK243.out 1).trans rfl, (blk_cell BK243.out 2).trans rfl, (blk_cell BK243.out 3).trans rfl⟩ (fun hHeld => ?_)
         clear hK K
         refine norm_ (a' := ?_) ?_ ?_
         rotate_left
         ·show Act.put _ (some 88) _ = _
          simp only [Act.put, List.setIfInBounds_toArray, List.set_cons_zero, List.set_cons_succ, i64_w, i32_w]
          rfl
         refine pure_ (i := 10) (N := some 89) (v := ?_) (a' := ?_) mk_11 rfl rfl (any_of HT_.out (by kernel_rfl)) (fun _ _ _ h => h) (Or.inl ⟨by rfl, ?_⟩) ?_ ?_
         rotate_left
         ·intro w'
          go_simp
          with_reducible rfl
         rotate_left
         ·simp only [Act.put, List.setIfInBounds_toArray, List.set_cons_zero, List.set_cons_succ, i64_w, i32_w]
          rfl
         refine pure_ (i := 11) (N := some 90) (v := ?_) (a' := ?_) mk_12 rfl rfl (any_of HT_.out (by kernel_rfl)) (fun _ _ _ h => h) (Or.inl ⟨by rfl, ?_⟩) ?_ ?_
         rotate_left
         ·intro w'
          go_simp
          with_reducible rfl
         rotate_left
         ·simp only [Act.put, List.setIfInBounds_toArray, List.set_cons_zero, List.set_cons_succ, i64_w, i32_w]
          rfl
         refine pure_ (i := 12) (N := some 91) (v := ?_) (a' := ?_) mk_13 rfl rfl (any_of HT_.out (by kernel_rfl)) (fun _ _ _ h => h) (Or.inl ⟨by rfl, ?_⟩) ?_ ?_
         rotate_left
         ·intro w'
          go_simp
          with_reducible rfl
         rotate_left
         ·simp only [Act.put, List.setIfInBounds_toArray, List.set_cons_zero, List.set_cons_succ, i64_w, i32_w]
          rfl
         refine take_ (i := 13) (N := some 92) (v := ?_) (a' := ?_) mk_14 rfl rfl (take_ofW HT_.out HW_.out (by kernel_rfl)) (fun _ _ _ h => h) (Or.inl ⟨by rfl, ?_⟩) hHeld ?_ ?_
         rotate_left
         ·rintro w' ⟨s0, s1, s2, s3, s4, s5, s6, s7, s8, s9, s10, s11⟩
          go_simp
          with_reducible rfl
         rotate_left
         ·simp only [Act.put, List.setIfInBounds_toArray, List.set_cons_zero, List.set_cons_succ, i64_w, i32_w]
          rfl
         refine take_ (i := 14) (N := some 93) (v := ?_) (a' := ?_) mk_15 rfl rfl (take_ofW HT_.out HW_.out (by kernel_rfl)) (fun _ _ _ h => h) (Or.inl ⟨by rfl, ?_⟩) hHeld ?_ ?_
         rotate_left
         ·rintro w' ⟨s0, s1, s2, s3, s4, s5, s6, s7, s8, s9, s10, s11⟩
          go_simp
          with_reducible rfl
         rotate_left
         ·simp only [Act.put, List.setIfInBounds_toArray, List.set_cons_zero, List.set_cons_succ, i64_w, i32_w]
          rfl
         refine pure_ (i := 15) (N := some 94) (v := ?_) (a' := ?_) mk_16 rfl rfl (any_of HT_.out (by kernel_rfl)) (fun _ _ _ h => h) (Or.inl ⟨by rfl, ?_⟩) ?_ ?_
         rotate_left
         ·intro w'
          go_simp
          with_reducible rfl
         rotate_left
         ·simp only [Act.put, List.setIfInBounds_toArray, List.set_cons_zero, List.set_cons_succ, i64_w, i32_w]
          rfl
         refine pure_ (i := 16) (N := some 95) (v := ?_) (a' := ?_) mk_17 rfl rfl (any_of HT_.out (by kernel_rfl)) (fun _ _ _ h => h) (Or.inl ⟨by rfl, ?_⟩) ?_ ?_
         rotate_left
         ·intro w'
          go_simp
          with_reducible rfl
         rotate_left
         ·simp only [Act.put, List.setIfInBounds_toArray, List.set_cons_zero, List.set_cons_succ, i64_w, i32_w]
          rfl
         refine pure_ (i := 17) (N := some 96) (v := ?_) (a' := ?_) mk_18 rfl rfl (any_of HT_.out (by kernel_rfl)) (fun _ _ _ h => h) (Or.inl ⟨by rfl, ?_⟩) ?_ ?_
         rotate_left
         ·intro w'
          go_simp
          with_reducible rfl
         rotate_left
         ·simp only [Act.put, List.setIfInBounds_toArray, List.set_cons_zero, List.set_cons_succ, i64_w, i32_w]
          rfl
         refine pure_ (i := 18) (N := some 97) (v := ?_) (a' := ?_) mk_19 rfl rfl (any_of HT_.out (by kernel_rfl)) (fun _ _ _ h => h) (Or.inl ⟨by rfl, ?_⟩) ?_ ?_
         rotate_left
         ·intro w'
          go_simp
          with_reducible rfl
         rotate_left
         ·simp only [Act.put, List.setIfInBounds_toArray, List.set_cons_zero, List.set_cons_succ, i64_w, i32_w]
          rfl
         refine pure_ (i := 19) (N := some 98) (v := ?_) (a' := ?_) mk_20 rfl rfl (any_of HT_.out (by kernel_rfl)) (fun _ _ _ h => h) (Or.inl ⟨by rfl, ?_⟩) ?_ ?_
         rotate_left
         ·intro w'
          go_simp
          with_reducible rfl
         rotate_left
         ·simp only [Act.put, List.setIfInBounds_toArray, List.set_cons_zero, List.set_cons_succ, i64_w, i32_w]
          rfl
         refine pure_ (i := 20) (N := some 99) (v := ?_) (a' := ?_) mk_21 rfl rfl (any_of HT_.out (by kernel_rfl)) (fun _ _ _ h => h) (Or.inl ⟨by rfl, ?_⟩) ?_ ?_
         rotate_left
         ·intro w'
          go_simp
          with_reducible rfl
         rotate_left
         ·simp only [Act.put, List.setIfInBounds_toArray, List.set_cons_zero, List.set_cons_succ, i64_w, i32_w]
          rfl
         refine pure_ (i := 21) (N := some 100) (v := ?_) (a' := ?_) mk_22 rfl rfl (any_of HT_.out (by kernel_rfl)) (fun _ _ _ h => h) (Or.inl ⟨by rfl, ?_⟩) ?_ ?_
         rotate_left
         ·intro w'
          go_simp
          with_reducible rfl
         rotate_left
         ·simp only [Act.put, List.setIfInBounds_toArray, List.set_cons_zero, List.set_cons_succ, i64_w, i32_w]
          rfl
         refine pure_ (i := 22) (N := some 101) (v := ?_) (a' := ?_) mk_23 rfl rfl (any_of HT_.out (by kernel_rfl)) (fun _ _ _ h => h) (Or.inl ⟨by rfl, ?_⟩) ?_ ?_
         rotate_left
         ·intro w'
          go_simp
          with_reducible rfl
         rotate_left
         ·simp only [Act.put, List.setIfInBounds_toArray, List.set_cons_zero, List.set_cons_succ, i64_w, i32_w]
          rfl
         refine pure_ (i := 23) (N := some 102) (v := undef) (a' := ?_) mk_24 rfl rfl (any_of HT_.out (by kernel_rfl)) (fun _ _ _ h => h) (Or.inr ⟨by rfl, rfl⟩) ?_ ?_
         rotate_left
         ·simp only [Act.put, List.setIfInBounds_toArray, List.set_cons_zero, List.set_cons_succ, i64_w, i32_w]
          rfl
         refine pure_ (i := 24) (N := some 103) (v := undef) (a' := ?_) mk_25 rfl rfl (any_of HT_.out (by kernel_rfl)) (fun _ _ _ h => h) (Or.inr ⟨by rfl, rfl⟩) ?_ ?_
         rotate_left
         ·simp only [Act.put, List.setIfInBounds_toArray, List.set_cons_zero, List.set_cons_succ, i64_w, i32_w]
          rfl
         refine pure_ (i := 25) (N := some 104) (v := undef) (a' := ?_) mk_26 rfl rfl (any_of HT_.out (by kernel_rfl)) (fun _ _ _ h => h) (Or.inr ⟨by rfl, rfl⟩) ?_ ?_
         rotate_left
         ·simp only [Act.put, List.setIfInBounds_toArray, List.set_cons_zero, List.set_cons_succ, i64_w, i32_w]
          rfl
         refine pure_ (i := 26) (N := some 105) (v := ?_) (a' := ?_) mk_27 rfl rfl (any_of HT_.out (by kernel_rfl)) (fun _ _ _ h => h) (Or.inl ⟨by rfl, ?_⟩) ?_ ?_
         rotate_left
         ·intro w'
          go_simp
          with_reducible rfl
         rotate_left
         ·simp only [Act.put, List.setIfInBounds_toArray, List.set_cons_zero, List.set_cons_succ, i64_w, i32_w]
          rfl
         refine pure_ (i := 27) (N := some 106) (v := ?_) (a' := ?_) mk_28 rfl rfl (any_of HT_.out (by kernel_rfl)) (fun _ _ _ h => h) (Or.inl ⟨by rfl, ?_⟩) ?_ ?_
         rotate_left
         ·intro w'
          go_simp
          with_reducible rfl
         rotate_left
         ·simp only [Act.put, List.setIfInBounds_toArray, List.set_cons_zero, List.set_cons_succ, i64_w, i32_w]
          rfl
         refine pure_ (i := 28) (N := some 107) (v := undef) (a' := ?_) mk_29 rfl rfl (any_of HT_.out (by kernel_rfl)) (fun _ _ _ h => h) (Or.inr ⟨by rfl, rfl⟩) ?_ ?_
         rotate_left
         ·simp only [Act.put, List.setIfInBounds_toArray, List.set_cons_zero, List.set_cons_succ, i64_w, i32_w]
          rfl
         refine pure_ (i := 29) (N := some 108) (v := undef) (a' := ?_) mk_30 rfl rfl (any_of HT_.out (by kernel_rfl)) (fun _ _ _ h => h) (Or.inr ⟨by rfl, rfl⟩) ?_ ?_
         rotate_left
         ·simp only [Act.put, List.setIfInBounds_toArray, List.set_cons_zero, List.set_cons_succ, i64_w, i32_w]
          rfl
         refine pure_ (i := 30) (N := some 109) (v := undef) (a' := ?_) mk_31 rfl rfl (any_of HT_.out (by kernel_rfl)) (fun _ _ _ h => h) (Or.inr ⟨by rfl, rfl⟩) ?_ ?_
         rotate_left
         ·simp only [Act.put, List.setIfInBounds_toArray, List.set_cons_zero, List.set_cons_succ, i64_w, i32_w]
          rfl
         refine pure_ (i := 31) (N := some 110) (v := ?_) (a' := ?_) mk_32 rfl rfl (any_of HT_.out (by kernel_rfl)) (fun _ _ _ h => h) (Or.inl ⟨by rfl, ?_⟩) ?_ ?_
         rotate_left
         ·intro w'
          go_simp
          with_reducible rfl
         rotate_left
         ·simp only [Act.put, List.setIfInBounds_toArray, List.set_cons_zero, List.set_cons_succ, i64_w, i32_w]
          rfl
         refine pure_ (i := 32) (N := some 111) (v := ?_) (a' := ?_) mk_33 rfl rfl (any_of HT_.out (by kernel_rfl)) (fun _ _ _ h => h) (Or.inl ⟨by rfl, ?_⟩) ?_ ?_
         rotate_left
         ·intro w'
          go_simp
          with_reducible rfl
         rotate_left
         ·simp only [Act.put, List.setIfInBounds_toArray, List.set_cons_zero, List.set_cons_succ, i64_w, i32_w]
          rfl
         refine pure_ (i := 33) (N := some 112) (v := undef) (a' := ?_) mk_34 rfl rfl (any_of HT_.out (by kernel_rfl)) (fun _ _ _ h => h) (Or.inr ⟨by rfl, rfl⟩) ?_ ?_
         rotate_left
         ·simp only [Act.put, List.setIfInBounds_toArray, List.set_cons_zero, List.set_cons_succ, i64_w, i32_w]
          rfl
         refine pure_ (i := 34) (N := some 113) (v := undef) (a' := ?_) mk_41 rfl rfl (any_of HT_.out (by kernel_rfl)) (fun _ _ _ h => h) (Or.inr ⟨by rfl, rfl⟩) ?_ ?_
         rotate_left
         ·simp only [Act.put, List.setIfInBounds_toArray, List.set_cons_zero, List.set_cons_succ, i64_w, i32_w]
          rfl
         refine pure_ (i := 35) (N := some 114) (v := undef) (a' := ?_) mk_36 rfl rfl (any_of HT_.out (by kernel_rfl)) (fun _ _ _ h => h) (Or.inr ⟨by rfl, rfl⟩) ?_ ?_
         rotate_left
         ·simp only [Act.put, List.setIfInBounds_toArray, List.set_cons_zero, List.set_cons_succ, i64_w, i32_w]
          rfl
         refine pure_ (i := 36) (N := some 115) (v := undef) (a' := ?_) mk_37 rfl rfl (any_of HT_.out (by kernel_rfl)) (fun _ _ _ h => h) (Or.inr ⟨by rfl, rfl⟩) ?_ ?_
         rotate_left
         ·simp only [Act.put, List.setIfInBounds_toArray, List.set_cons_zero, List.set_cons_succ, i64_w, i32_w]
          rfl
         refine pure_ (i := 37) (N := some 116) (v := undef) (a' := ?_) mk_38 rfl rfl (any_of HT_.out (by kernel_rfl)) (fun _ _ _ h => h) (Or.inr ⟨by rfl, rfl⟩) ?_ ?_
         rotate_left
         ·simp only [Act.put, List.setIfInBounds_toArray, List.set_cons_zero, List.set_cons_succ, i64_w, i32_w]
          rfl
         refine pure_ (i := 38) (N := some 117) (v := ?_) (a' := ?_) mk_39 rfl rfl (any_of HT_.out (by kernel_rfl)) (fun _ _ _ h => h) (Or.inl ⟨by rfl, ?_⟩) ?_ ?_
         rotate_left
         ·intro w'
          go_simp
          with_reducible rfl
         rotate_left
         ·simp only [Act.put, List.setIfInBounds_toArray, List.set_cons_zero, List.set_cons_succ, i64_w, i32_w]
          rfl
         refine pure_ (i := 39) (N := some 12) (v := ?_) (a' := ?_) mk_40 rfl rfl (any_of HT_.out (by kernel_rfl)) (fun _ _ _ h => h) (Or.inl ⟨by rfl, ?_⟩) ?_ ?_
         rotate_left
         ·intro w'
          go_simp
          with_reducible rfl
         rotate_left
         ·simp only [Act.put, List.setIfInBounds_toArray, List.set_cons_zero, List.set_cons_succ, i64_w, i32_w]
          rfl
         refine done_ (done_of HT_.out (by kernel_rfl)) ?_
         try go_wp2
         go_ret
         exact ⟨by first | rfl | (simp [errW_none, errW_some] <;> rfl) | (simp [*, errW_none, errW_some] <;> rfl), bl⟩
       ·rw [if_neg c34] at H
        have c34b0 : (t232 == t238 && (t233 == t239 && (t234.toList == t240.toList && (t235.toList == t241.toList)))) = false := by simpa using c34
        (try (have c34b1 : decide (t232 = t238 && (t233 == t239 && (t234.toList == t240.toList && (t235.toList == t241.toList)))) = false := by simpa using c34))
        (try (have c34b2 : (t232 == t238 && (t233 == t239 && (t234.toList == t240.toList && (t235.toList == t241.toList)))) = false := by simpa using c34))
        (try (have c34b3 : ¬ (t232 = t238 && (t233 == t239 && (t234.toList == t240.toList && (t235.toList == t241.toList)))) := by simpa using c34))
        clear c34
        obtain rfl := Option.some.inj H
        refine start_ (n := 40) (S := fun w' => w'.cell? ⟨gb230, 0, none⟩ = some (.int .i64 a0_0) ∧ w'.cell? ⟨gb230, 1, none⟩ = some (.bool a0_1) ∧ w'.cell? ⟨gb230, 2, none⟩ = some (.string a0_2) ∧ w'.cell? ⟨gb230, 3, none⟩ = some (.string a0_3) ∧ w'.cell? ⟨gb237, 0, none⟩ = some (.int .i64 t232) ∧ w'.cell? ⟨gb237, 1, none⟩ = some (.bool t233) ∧ w'.cell? ⟨gb237, 2, none⟩ = some (.string t234) ∧ w'.cell? ⟨gb237, 3, none⟩ = some (.string t235) ∧ w'.cell? ⟨gb243, 0, none⟩ = some (.int .i64 t238) ∧ w'.cell? ⟨gb243, 1, none⟩ = some (.bool t239) ∧ w'.cell? ⟨gb243, 2, none⟩ = some (.string t240) ∧ w'.cell? ⟨gb243, 3, none⟩ = some (.string t241)) (ds := []) mk_0 (by kernel_rfl) rfl rfl ⟨(blk_cell BK230.out 0).trans rfl, (blk_cell BK230.out 1).trans rfl, (blk_cell BK230.out 2).trans rfl, (blk_cell BK230.out 3).trans rfl, (blk_cell BK237.out 0).trans rfl, (blk_cell BK237.out 1).trans rfl, (blk_cell BK237.out 2).trans rfl, (blk_cell BK237.out 3).trans rfl, (blk_cell BK243.out 0).trans rfl, (blk_cell BK243.out 1).trans rfl, (blk_cell BK243.out 2).trans rfl, (blk_cell BK243.out 3).trans rfl⟩ (fun hHeld => ?_); refine with_tabW targumlaw5_DecTells.tab9 targumlaw5_DecTells.bits9 (fun HT_ HW_ => ?_)
        generalize w62.drew = w177 at BK230 BK237 BK243 BK249 BK255 HB hHeld ⊢
        refine take_ (i := 0) (N := some 79) (v := ?_) (a' := ?_) mk_1 rfl rfl (take_ofW HT_.out HW_.out (by kernel_rfl)) (fun _ _ _ h => h) (Or.inl ⟨by rfl, ?_⟩) hHeld ?_ ?_
        rotate_left
        ·rintro w' ⟨s0, s1, s2, s3, s4, s5, s6, s7, s8, s9, s10, s11⟩
         go_simp
         with_reducible rfl
        rotate_left
        ·simp only [Act.put, List.setIfInBounds_toArray, List.set_cons_zero, List.set_cons_succ, i64_w, i32_w]
         rfl
        refine take_ (i := 2) (N := some 81) (v := ?_) (a' := ?_) mk_2 rfl rfl (take_ofW HT_.out HW_.out (by kernel_rfl)) (fun _ _ _ h => h) (Or.inl ⟨by rfl, ?_⟩) hHeld ?_ ?_
        rotate_left
        ·rintro w' ⟨s0, s1, s2, s3, s4, s5, s6, s7, s8, s9, s10, s11⟩
         go_simp
         with_reducible rfl
        rotate_left
        ·simp only [Act.put, List.setIfInBounds_toArray, List.set_cons_zero, List.set_cons_succ, i64_w, i32_w]
         rfl
        refine one_ (i := 1) (N := some 80) mk_3 rfl rfl (one_of HT_.out (by kernel_rfl)) (by decide) (fun K hK => ?_)
        refine goes_ Tryd.func33 (by kernel_rfl) rfl #[.agg #[.int .i64 a0_0, .bool a0_1, .string a0_2, .string a0_3]] (by rfl) rfl rfl (by (try simp only [List.map_toArray, List.map_cons, List.map_nil]); first | done | rfl | (simp only [List.length_drop, List.length_take]; rfl)) ?_
        with_reducible refine (dec_Good.calls kj8 a0_0 a0_1 a0_2 a0_3 t256 _ A28.out).mono ?_
        rintro e w178 ⟨rfl, hb⟩
        refine ⟨_, rfl, ?_⟩
        have n0_ := Aside0.mk (blk_below (g := gb230) (o := .cells #[.int .i64 a0_0, .bool a0_1, .string a0_2, .string a0_3] 40 (0, 0)) bk hb)
        have n1_ := Aside0.mk (blk_below (g := gb237) (o := .cells #[.int .i64 t232, .bool t233, .string t234, .string t235] 40 (0, 0)) bk hb)
        have n2_ := Aside0.mk (blk_below (g := gb243) (o := .cells #[.int .i64 t238, .bool t239, .string t240, .string t241] 40 (0, 0)) bk hb)
        have n3_ := Aside0.mk (blk_below (g := gb249) (o := .cells #[.int .i64 t244, .bool t245, .string t246, .string t247] 40 (0, 0)) bk hb)
        have n4_ := Aside0.mk (blk_below (g := gb255) (o := .cells #[.int .i64 t250, .bool t251, .string t252, .string t253] 40 (0, 0)) bk hb)
        have n5_ := Aside0.mk (below_step bl hb)
        clear BK230
        clear BK237
        clear BK243
        clear BK249
        clear BK255
        clear HB
        have BK230 := n0_
        have BK237 := n1_
        have BK243 := n2_
        have BK249 := n3_
        have BK255 := n4_
        have HB := n5_
        clear n0_ n1_ n2_ n3_ n4_ n5_
        (try clear hb)
        (try clear hb2)
        (try clear hk)
        (try clear hi)
        refine hK.out _ _ ⟨(blk_cell BK230.out 0).trans rfl, (blk_cell BK230.out 1).trans rfl, (blk_cell BK230.out 2).trans rfl, (blk_cell BK230.out 3).trans rfl, (blk_cell BK237.out 0).trans rfl, (blk_cell BK237.out 1).trans rfl, (blk_cell BK237.out 2).trans rfl, (blk_cell BK237.out 3).trans rfl, (blk_cell BK243.out 0).trans rfl, (blk_cell BK243.out 1).trans rfl, (blk_cell BK243.out 2).trans rfl, (blk_cell BK243.out 3).trans rfl⟩ (fun hHeld => ?_)
        clear hK K
        refine norm_ (a' := ?_) ?_ ?_
        rotate_left
        ·show Act.put _ (some 80) _ = _
         simp only [Act.put, List.setIfInBounds_toArray, List.set_cons_zero, List.set_cons_succ, i64_w, i32_w]
         rfl
        refine one_ (i := 3) (N := some 82) mk_4 rfl rfl (one_of HT_.out (by kernel_rfl)) (by decide) (fun K hK => ?_)
        refine goes_ Tryd.func34 (by kernel_rfl) rfl #[.agg #[.int .i64 a0_0, .bool a0_1, .string a0_2, .string a0_3]] (by rfl) rfl rfl (by (try simp only [List.map_toArray, List.map_cons, List.map_nil]); first | done | rfl | (simp only [List.length_drop, List.length_take]; rfl)) ?_
        with_reducible refine (targumref4_Dec.calls kj8 a0_0 a0_1 a0_2 a0_3 t257 _ A29.out).mono ?_
        rintro e w179 ⟨rfl, hb⟩
        refine ⟨_, rfl, ?_⟩
        have n0_ := Aside0.mk (blk_below (g := gb230) (o := .cells #[.int .i64 a0_0, .bool a0_1, .string a0_2, .string a0_3] 40 (0, 0)) bk hb)
        have n1_ := Aside0.mk (blk_below (g := gb237) (o := .cells #[.int .i64 t232, .bool t233, .string t234, .string t235] 40 (0, 0)) bk hb)
        have n2_ := Aside0.mk (blk_below (g := gb243) (o := .cells #[.int .i64 t238, .bool t239, .string t240, .string t241] 40 (0, 0)) bk hb)
        have n3_ := Aside0.mk (blk_below (g := gb249) (o := .cells #[.int .i64 t244, .bool t245, .string t246, .string t247] 40 (0, 0)) bk hb)
        have n4_ := Aside0.mk (blk_below (g := gb255) (o := .cells #[.int .i64 t250, .bool t251, .string t252, .string t253] 40 (0, 0)) bk hb)
        have n5_ := Aside0.mk (below_step bl hb)
        clear BK230
        clear BK237
        clear BK243
        clear BK249
        clear BK255
        clear HB
        have BK230 := n0_
        have BK237 := n1_
        have BK243 := n2_
        have BK249 := n3_
        have BK255 := n4_
        have HB := n5_
        clear n0_ n1_ n2_ n3_ n4_ n5_
        (try clear hb)
        (try clear hb2)
        (try clear hk)
        (try clear hi)
        refine hK.out _ _ ⟨(blk_cell BK230.out 0).trans rfl, (blk_cell BK230.out 1).trans rfl, (blk_cell BK230.out 2).trans rfl, (blk_cell BK230.out 3).trans rfl, (blk_cell BK237.out 0).trans rfl, (blk_cell BK237.out 1).trans rfl, (blk_cell BK237.out 2).trans rfl, (blk_cell BK237.out 3).trans rfl, (blk_cell BK243.out 0).trans rfl, (blk_cell BK243.out 1).trans rfl, (blk_cell BK243.out 2).trans rfl, (blk_cell BK243.out 3).trans rfl⟩ (fun hHeld => ?_)
        clear hK K
        refine norm_ (a' := ?_) ?_ ?_
        rotate_left
        ·show Act.put _ (some 82) _ = _
         simp only [Act.put, List.setIfInBounds_toArray, List.set_cons_zero, List.set_cons_succ, i64_w, i32_w]
         rfl
        refine pure_ (i := 4) (N := some 83) (v := ?_) (a' := ?_) mk_5 rfl rfl (any_of HT_.out (by kernel_rfl)) (fun _ _ _ h => h) (Or.inl ⟨by rfl, ?_⟩) ?_ ?_
        rotate_left
        ·intro w'
         go_simp
         with_reducible rfl
        rotate_left
        ·simp only [Act.put, List.setIfInBounds_toArray, List.set_cons_zero, List.set_cons_succ, i64_w, i32_w]
         rfl
        refine pure_ (i := 5) (N := some 84) (v := ?_) (a' := ?_) mk_6 rfl rfl (any_of HT_.out (by kernel_rfl)) (fun _ _ _ h => h) (Or.inl ⟨by rfl, ?_⟩) ?_ ?_
        rotate_left
        ·intro w'
         go_simp
         with_reducible rfl
        rotate_left
        ·simp only [Act.put, List.setIfInBounds_toArray, List.set_cons_zero, List.set_cons_succ, i64_w, i32_w]
         rfl
        refine take_ (i := 6) (N := some 85) (v := ?_) (a' := ?_) mk_7 rfl rfl (take_ofW HT_.out HW_.out (by kernel_rfl)) (fun _ _ _ h => h) (Or.inl ⟨by rfl, ?_⟩) hHeld ?_ ?_
        rotate_left
        ·rintro w' ⟨s0, s1, s2, s3, s4, s5, s6, s7, s8, s9, s10, s11⟩
         go_simp
         with_reducible rfl
        rotate_left
        ·simp only [Act.put, List.setIfInBounds_toArray, List.set_cons_zero, List.set_cons_succ, i64_w, i32_w]
         rfl
        refine take_ (i := 8) (N := some 87) (v := ?_) (a' := ?_) mk_8 rfl rfl (take_ofW HT_.out HW_.out (by kernel_rfl)) (fun _ _ _ h => h) (Or.inl ⟨by rfl, ?_⟩) hHeld ?_ ?_
        rotate_left
        ·rintro w' ⟨s0, s1, s2, s3, s4, s5, s6, s7, s8, s9, s10, s11⟩
         go_simp
         with_reducible rfl
        rotate_left
        ·simp only [Act.put, List.setIfInBounds_toArray, List.set_cons_zero, List.set_cons_succ, i64_w, i32_w]
         rfl
        refine one_ (i := 7) (N := some 86) mk_9 rfl rfl (one_of HT_.out (by kernel_rfl)) (by decide) (fun K hK => ?_)
        refine goes_ Tryd.func35 (by kernel_rfl) rfl #[.agg #[.int .i64 a0_0, .bool a0_1, .string a0_2, .string a0_3]] (by rfl) rfl rfl (by (try simp only [List.map_toArray, List.map_cons, List.map_nil]); first | done | rfl | (simp only [List.length_drop, List.length_take]; rfl)) ?_
        with_reducible refine (dec_Print.calls kj8 a0_0 a0_1 a0_2 a0_3 t258 _ A31.out).mono ?_
        rintro e w180 ⟨rfl, hb⟩
        refine ⟨_, rfl, ?_⟩
        have n0_ := Aside0.mk (blk_below (g := gb230) (o := .cells #[.int .i64 a0_0, .bool a0_1, .string a0_2, .string a0_3] 40 (0, 0)) bk hb)
        have n1_ := Aside0.mk (blk_below (g := gb237) (o := .cells #[.int .i64 t232, .bool t233, .string t234, .string t235] 40 (0, 0)) bk hb)
        have n2_ := Aside0.mk (blk_below (g := gb243) (o := .cells #[.int .i64 t238, .bool t239, .string t240, .string t241] 40 (0, 0)) bk hb)
        have n3_ := Aside0.mk (blk_below (g := gb249) (o := .cells #[.int .i64 t244, .bool t245, .string t246, .string t247] 40 (0, 0)) bk hb)
        have n4_ := Aside0.mk (blk_below (g := gb255) (o := .cells #[.int .i64 t250, .bool t251, .string t252, .string t253] 40 (0, 0)) bk hb)
        have n5_ := Aside0.mk (below_step bl hb)
        clear BK230
        clear BK237
        clear BK243
        clear BK249
        clear BK255
        clear HB
        have BK230 := n0_
        have BK237 := n1_
        have BK243 := n2_
        have BK249 := n3_
        have BK255 := n4_
        have HB := n5_
        clear n0_ n1_ n2_ n3_ n4_ n5_
        (try clear hb)
        (try clear hb2)
        (try clear hk)
        (try clear hi)
        refine hK.out _ _ ⟨(blk_cell BK230.out 0).trans rfl, (blk_cell BK230.out 1).trans rfl, (blk_cell BK230.out 2).trans rfl, (blk_cell BK230.out 3).trans rfl, (blk_cell BK237.out 0).trans rfl, (blk_cell BK237.out 1).trans rfl, (blk_cell BK237.out 2).trans rfl, (blk_cell BK237.out 3).trans rfl, (blk_cell BK243.out 0).trans rfl, (blk_cell BK243.out 1).trans rfl, (blk_cell BK243.out 2).trans rfl, (blk_cell BK243.out 3).trans rfl⟩ (fun hHeld => ?_)
        clear hK K
        refine norm_ (a' := ?_) ?_ ?_
        rotate_left
        ·show Act.put _ (some 86) _ = _
         simp only [Act.put, List.setIfInBounds_toArray, List.set_cons_zero, List.set_cons_succ, i64_w, i32_w]
         rfl
        refine one_ (i := 9) (N := some 88) mk_10 rfl rfl (one_of HT_.out (by kernel_rfl)) (by decide) (fun K hK => ?_)
        refine goes_ Tryd.func36 (by kernel_rfl) rfl #[.agg #[.int .i64 a0_0, .bool a0_1, .string a0_2, .string a0_3]] (by rfl) rfl rfl (by (try simp only [List.map_toArray, List.map_cons, List.map_nil]); first | done | rfl | (simp only [List.length_drop, List.length_take]; rfl)) ?_
        with_reducible refine (targumref4_Print.calls kj8 a0_0 a0_1 a0_2 a0_3 t259 _ A32.out).mono ?_
        rintro e w181 ⟨rfl, hb⟩
        refine ⟨_, rfl, ?_⟩
        have n0_ := Aside0.mk (blk_below (g := gb230) (o := .cells #[.int .i64 a0_0, .bool a0_1, .string a0_2, .string a0_3] 40 (0, 0)) bk hb)
        have n1_ := Aside0.mk (blk_below (g := gb237) (o := .cells #[.int .i64 t232, .bool t233, .string t234, .string t235] 40 (0, 0)) bk hb)
        have n2_ := Aside0.mk (blk_below (g := gb243) (o := .cells #[.int .i64 t238, .bool t239, .string t240, .string t241] 40 (0, 0)) bk hb)
        have n3_ := Aside0.mk (blk_below (g := gb249) (o := .cells #[.int .i64 t244, .bool t245, .string t246, .string t247] 40 (0, 0)) bk hb)
        have n4_ := Aside0.mk (blk_below (g := gb255) (o := .cells #[.int .i64 t250, .bool t251, .string t252, .string t253] 40 (0, 0)) bk hb)
        have n5_ := Aside0.mk (below_step bl hb)
        clear BK230
        clear BK237
        clear BK243
        clear BK249
        clear BK255
        clear HB
        have BK230 := n0_
        have BK237 := n1_
        have BK243 := n2_
        have BK249 := n3_
        have BK255 := n4_
        have HB := n5_
        clear n0_ n1_ n2_ n3_ n4_ n5_
        (try clear hb)
        (try clear hb2)
        (try clear hk)
        (try clear hi)
        refine hK.out _ _ ⟨(blk_cell BK230.out 0).trans rfl, (blk_cell BK230.out 1).trans rfl, (blk_cell BK230.out 2).trans rfl, (blk_cell BK230.out 3).trans rfl, (blk_cell BK237.out 0).trans rfl, (blk_cell BK237.out 1).trans rfl, (blk_cell BK237.out 2).trans rfl, (blk_cell BK237.out 3).trans rfl, (blk_cell BK243.out 0).trans rfl, (blk_cell BK243.out 1).trans rfl, (blk_cell BK243.out 2).trans rfl, (blk_cell BK243.out 3).trans rfl⟩ (fun hHeld => ?_)
        clear hK K
        refine norm_ (a' := ?_) ?_ ?_
        rotate_left
        ·show Act.put _ (some 88) _ = _
         simp only [Act.put, List.setIfInBounds_toArray, List.set_cons_zero, List.set_cons_succ, i64_w, i32_w]
         rfl
        refine pure_ (i := 10) (N := some 89) (v := ?_) (a' := ?_) mk_11 rfl rfl (any_of HT_.out (by kernel_rfl)) (fun _ _ _ h => h) (Or.inl ⟨by rfl, ?_⟩) ?_ ?_
        rotate_left
        ·intro w'
         go_simp
         with_reducible rfl
        rotate_left
        ·simp only [Act.put, List.setIfInBounds_toArray, List.set_cons_zero, List.set_cons_succ, i64_w, i32_w]
         rfl
        refine pure_ (i := 11) (N := some 90) (v := ?_) (a' := ?_) mk_12 rfl rfl (any_of HT_.out (by kernel_rfl)) (fun _ _ _ h => h) (Or.inl ⟨by rfl, ?_⟩) ?_ ?_
        rotate_left
        ·intro w'
         go_simp
         with_reducible rfl
        rotate_left
        ·simp only [Act.put, List.setIfInBounds_toArray, List.set_cons_zero, List.set_cons_succ, i64_w, i32_w]
         rfl
        refine pure_ (i := 12) (N := some 91) (v := ?_) (a' := ?_) mk_13 rfl rfl (any_of HT_.out (by kernel_rfl)) (fun _ _ _ h => h) (Or.inl ⟨by rfl, ?_⟩) ?_ ?_
        rotate_left
        ·intro w'
         go_simp
         with_reducible rfl
        rotate_left
        ·simp only [Act.put, List.setIfInBounds_toArray, List.set_cons_zero, List.set_cons_succ, i64_w, i32_w]
         rfl
        refine take_ (i := 13) (N := some 92) (v := ?_) (a' := ?_) mk_14 rfl rfl (take_ofW HT_.out HW_.out (by kernel_rfl)) (fun _ _ _ h => h) (Or.inl ⟨by rfl, ?_⟩) hHeld ?_ ?_
        rotate_left
        ·rintro w' ⟨s0, s1, s2, s3, s4, s5, s6, s7, s8, s9, s10, s11⟩
         go_simp
         with_reducible rfl
        rotate_left
        ·simp only [Act.put, List.setIfInBounds_toArray, List.set_cons_zero, List.set_cons_succ, i64_w, i32_w]
         rfl
        refine take_ (i := 14) (N := some 93) (v := ?_) (a' := ?_) mk_15 rfl rfl (take_ofW HT_.out HW_.out (by kernel_rfl)) (fun _ _ _ h => h) (Or.inl ⟨by rfl, ?_⟩) hHeld ?_ ?_
        rotate_left
        ·rintro w' ⟨s0, s1, s2, s3, s4, s5, s6, s7, s8, s9, s10, s11⟩
         go_simp
         with_reducible rfl
        rotate_left
        ·simp only [Act.put, List.setIfInBounds_toArray, List.set_cons_zero, List.set_cons_succ, i64_w, i32_w]
         rfl
        refine pure_ (i := 15) (N := some 94) (v := ?_) (a' := ?_) mk_16 rfl rfl (any_of HT_.out (by kernel_rfl)) (fun _ _ _ h => h) (Or.inl ⟨by rfl, ?_⟩) ?_ ?_
        rotate_left
        ·intro w'
         go_simp
         with_reducible rfl
        rotate_left
        ·simp only [Act.put, List.setIfInBounds_toArray, List.set_cons_zero, List.set_cons_succ, i64_w, i32_w]
         rfl
        refine pure_ (i := 16) (N := some 95) (v := ?_) (a' := ?_) mk_17 rfl rfl (any_of HT_.out (by kernel_rfl)) (fun _ _ _ h => h) (Or.inl ⟨by rfl, ?_⟩) ?_ ?_
        rotate_left
        ·intro w'
         go_simp
         with_reducible rfl
        rotate_left
        ·simp only [Act.put, List.setIfInBounds_toArray, List.set_cons_zero, List.set_cons_succ, i64_w, i32_w]
         rfl
        refine pure_ (i := 17) (N := some 96) (v := ?_) (a' := ?_) mk_18 rfl rfl (any_of HT_.out (by kernel_rfl)) (fun _ _ _ h => h) (Or.inl ⟨by rfl, ?_⟩) ?_ ?_
        rotate_left
        ·intro w'
         go_simp
         with_reducible rfl
        rotate_left
        ·simp only [Act.put, List.setIfInBounds_toArray, List.set_cons_zero, List.set_cons_succ, i64_w, i32_w]
         rfl
        refine pure_ (i := 18) (N := some 97) (v := undef) (a' := ?_) mk_19 rfl rfl (any_of HT_.out (by kernel_rfl)) (fun _ _ _ h => h) (Or.inr ⟨by rfl, rfl⟩) ?_ ?_
        rotate_left
        ·simp only [Act.put, List.setIfInBounds_toArray, List.set_cons_zero, List.set_cons_succ, i64_w, i32_w]
         rfl
        refine pure_ (i := 19) (N := some 98) (v := undef) (a' := ?_) mk_20 rfl rfl (any_of HT_.out (by kernel_rfl)) (fun _ _ _ h => h) (Or.inr ⟨by rfl, rfl⟩) ?_ ?_
        rotate_left
        ·simp only [Act.put, List.setIfInBounds_toArray, List.set_cons_zero, List.set_cons_succ, i64_w, i32_w]
         rfl
        refine pure_ (i := 20) (N := some 99) (v := undef) (a' := ?_) mk_21 rfl rfl (any_of HT_.out (by kernel_rfl)) (fun _ _ _ h => h) (Or.inr ⟨by rfl, rfl⟩) ?_ ?_
        rotate_left
        ·simp only [Act.put, List.setIfInBounds_toArray, List.set_cons_zero, List.set_cons_succ, i64_w, i32_w]
         rfl
        refine pure_ (i := 21) (N := some 100) (v := ?_) (a' := ?_) mk_22 rfl rfl (any_of HT_.out (by kernel_rfl)) (fun _ _ _ h => h) (Or.inl ⟨by rfl, ?_⟩) ?_ ?_
        rotate_left
        ·intro w'
         go_simp
         with_reducible rfl
        rotate_left
        ·simp only [Act.put, List.setIfInBounds_toArray, List.set_cons_zero, List.set_cons_succ, i64_w, i32_w]
         rfl
        refine pure_ (i := 22) (N := some 101) (v := ?_) (a' := ?_) mk_23 rfl rfl (any_of HT_.out (by kernel_rfl)) (fun _ _ _ h => h) (Or.inl ⟨by rfl, ?_⟩) ?_ ?_
        rotate_left
        ·intro w'
         go_simp
         with_reducible rfl
        rotate_left
        ·simp only [Act.put, List.setIfInBounds_toArray, List.set_cons_zero, List.set_cons_succ, i64_w, i32_w]
         rfl
        refine pure_ (i := 23) (N := some 102) (v := undef) (a' := ?_) mk_24 rfl rfl (any_of HT_.out (by kernel_rfl)) (fun _ _ _ h => h) (Or.inr ⟨by rfl, rfl⟩) ?_ ?_
        rotate_left
        ·simp only [Act.put, List.setIfInBounds_toArray, List.set_cons_zero, List.set_cons_succ, i64_w, i32_w]
         rfl
        refine pure_ (i := 24) (N := some 103) (v := undef) (a' := ?_) mk_25 rfl rfl (any_of HT_.out (by kernel_rfl)) (fun _ _ _ h => h) (Or.inr ⟨by rfl, rfl⟩) ?_ ?_
        rotate_left
        ·simp only [Act.put, List.setIfInBounds_toArray, List.set_cons_zero, List.set_cons_succ, i64_w, i32_w]
         rfl
        refine pure_ (i := 25) (N := some 104) (v := undef) (a' := ?_) mk_26 rfl rfl (any_of HT_.out (by kernel_rfl)) (fun _ _ _ h => h) (Or.inr ⟨by rfl, rfl⟩) ?_ ?_
        rotate_left
        ·simp only [Act.put, List.setIfInBounds_toArray, List.set_cons_zero, List.set_cons_succ, i64_w, i32_w]
         rfl
        refine pure_ (i := 26) (N := some 105) (v := ?_) (a' := ?_) mk_27 rfl rfl (any_of HT_.out (by kernel_rfl)) (fun _ _ _ h => h) (Or.inl ⟨by rfl, ?_⟩) ?_ ?_
        rotate_left
        ·intro w'
         go_simp
         with_reducible rfl
        rotate_left
        ·simp only [Act.put, List.setIfInBounds_toArray, List.set_cons_zero, List.set_cons_succ, i64_w, i32_w]
         rfl
        refine pure_ (i := 27) (N := some 106) (v := ?_) (a' := ?_) mk_28 rfl rfl (any_of HT_.out (by kernel_rfl)) (fun _ _ _ h => h) (Or.inl ⟨by rfl, ?_⟩) ?_ ?_
        rotate_left
        ·intro w'
         go_simp
         with_reducible rfl
        rotate_left
        ·simp only [Act.put, List.setIfInBounds_toArray, List.set_cons_zero, List.set_cons_succ, i64_w, i32_w]
         rfl
        refine pure_ (i := 28) (N := some 107) (v := undef) (a' := ?_) mk_29 rfl rfl (any_of HT_.out (by kernel_rfl)) (fun _ _ _ h => h) (Or.inr ⟨by rfl, rfl⟩) ?_ ?_
        rotate_left
        ·simp only [Act.put, List.setIfInBounds_toArray, List.set_cons_zero, List.set_cons_succ, i64_w, i32_w]
         rfl
        refine pure_ (i := 29) (N := some 108) (v := undef) (a' := ?_) mk_30 rfl rfl (any_of HT_.out (by kernel_rfl)) (fun _ _ _ h => h) (Or.inr ⟨by rfl, rfl⟩) ?_ ?_
        rotate_left
        ·simp only [Act.put, List.setIfInBounds_toArray, List.set_cons_zero, List.set_cons_succ, i64_w, i32_w]
         rfl
        refine pure_ (i := 30) (N := some 109) (v := undef) (a' := ?_) mk_31 rfl rfl (any_of HT_.out (by kernel_rfl)) (fun _ _ _ h => h) (Or.inr ⟨by rfl, rfl⟩) ?_ ?_
        rotate_left
        ·simp only [Act.put, List.setIfInBounds_toArray, List.set_cons_zero, List.set_cons_succ, i64_w, i32_w]
         rfl
        refine pure_ (i := 31) (N := some 110) (v := ?_) (a' := ?_) mk_32 rfl rfl (any_of HT_.out (by kernel_rfl)) (fun _ _ _ h => h) (Or.inl ⟨by rfl, ?_⟩) ?_ ?_
        rotate_left
        ·intro w'
         go_simp
         with_reducible rfl
        rotate_left
        ·simp only [Act.put, List.setIfInBounds_toArray, List.set_cons_zero, List.set_cons_succ, i64_w, i32_w]
         rfl
        refine pure_ (i := 32) (N := some 111) (v := ?_) (a' := ?_) mk_33 rfl rfl (any_of HT_.out (by kernel_rfl)) (fun _ _ _ h => h) (Or.inl ⟨by rfl, ?_⟩) ?_ ?_
        rotate_left
        ·intro w'
         go_simp
         with_reducible rfl
        rotate_left
        ·simp only [Act.put, List.setIfInBounds_toArray, List.set_cons_zero, List.set_cons_succ, i64_w, i32_w]
         rfl
        refine pure_ (i := 33) (N := some 112) (v := undef) (a' := ?_) mk_34 rfl rfl (any_of HT_.out (by kernel_rfl)) (fun _ _ _ h => h) (Or.inr ⟨by rfl, rfl⟩) ?_ ?_
        rotate_left
        ·simp only [Act.put, List.setIfInBounds_toArray, List.set_cons_zero, List.set_cons_succ, i64_w, i32_w]
         rfl
        refine pure_ (i := 34) (N := some 113) (v := undef) (a' := ?_) mk_41 rfl rfl (any_of HT_.out (by kernel_rfl)) (fun _ _ _ h => h) (Or.inr ⟨by rfl, rfl⟩) ?_ ?_
        rotate_left
        ·simp only [Act.put, List.setIfInBounds_toArray, List.set_cons_zero, List.set_cons_succ, i64_w, i32_w]
         rfl
        refine pure_ (i := 35) (N := some 114) (v := undef) (a' := ?_) mk_36 rfl rfl (any_of HT_.out (by kernel_rfl)) (fun _ _ _ h => h) (Or.inr ⟨by rfl, rfl⟩) ?_ ?_
        rotate_left
        ·simp only [Act.put, List.setIfInBounds_toArray, List.set_cons_zero, List.set_cons_succ, i64_w, i32_w]
         rfl
        refine pure_ (i := 36) (N := some 115) (v := undef) (a' := ?_) mk_37 rfl rfl (any_of HT_.out (by kernel_rfl)) (fun _ _ _ h => h) (Or.inr ⟨by rfl, rfl⟩) ?_ ?_
        rotate_left
        ·simp only [Act.put, List.setIfInBounds_toArray, List.set_cons_zero, List.set_cons_succ, i64_w, i32_w]
         rfl
        refine pure_ (i := 37) (N := some 116) (v := undef) (a' := ?_) mk_38 rfl rfl (any_of HT_.out (by kernel_rfl)) (fun _ _ _ h => h) (Or.inr ⟨by rfl, rfl⟩) ?_ ?_
        rotate_left
        ·simp only [Act.put, List.setIfInBounds_toArray, List.set_cons_zero, List.set_cons_succ, i64_w, i32_w]
         rfl
        refine pure_ (i := 38) (N := some 117) (v := ?_) (a' := ?_) mk_39 rfl rfl (any_of HT_.out (by kernel_rfl)) (fun _ _ _ h => h) (Or.inl ⟨by rfl, ?_⟩) ?_ ?_
        rotate_left
        ·intro w'
         go_simp
         with_reducible rfl
        rotate_left
        ·simp only [Act.put, List.setIfInBounds_toArray, List.set_cons_zero, List.set_cons_succ, i64_w, i32_w]
         rfl
        refine pure_ (i := 39) (N := some 12) (v := ?_) (a' := ?_) mk_40 rfl rfl (any_of HT_.out (by kernel_rfl)) (fun _ _ _ h => h) (Or.inl ⟨by rfl, ?_⟩) ?_ ?_
        rotate_left
        ·intro w'
         go_simp
         with_reducible rfl
        rotate_left
        ·simp only [Act.put, List.setIfInBounds_toArray, List.set_cons_zero, List.set_cons_succ, i64_w, i32_w]
         rfl
        refine done_ (done_of HT_.out (by kernel_rfl)) ?_
        try go_wp2
        go_ret
        exact ⟨by first | rfl | (simp [errW_none, errW_some] <;> rfl) | (simp [*, errW_none, errW_some] <;> rfl), bl⟩
      ·rw [if_neg c33] at H
       have c33b0 : (t258.toList == t259.toList) = false := beq_eq_false_iff_ne.mpr c33
       have c33b1 : (t258.toList != t259.toList) = true := bne_iff_ne.mpr c33
       obtain rfl := Option.some.inj H
       refine start_ (n := 40) (S := fun w' => w'.cell? ⟨gb230, 0, none⟩ = some (.int .i64 a0_0) ∧ w'.cell? ⟨gb230, 1, none⟩ = some (.bool a0_1) ∧ w'.cell? ⟨gb230, 2, none⟩ = some (.string a0_2) ∧ w'.cell? ⟨gb230, 3, none⟩ = some (.string a0_3)) (ds := []) mk_0 (by kernel_rfl) rfl rfl ⟨(blk_cell BK230.out 0).trans rfl, (blk_cell BK230.out 1).trans rfl, (blk_cell BK230.out 2).trans rfl, (blk_cell BK230.out 3).trans rfl⟩ (fun hHeld => ?_); refine with_tabW targumlaw5_DecTells.tab9 targumlaw5_DecTells.bits9 (fun HT_ HW_ => ?_)
       generalize w62.drew = w205 at BK230 BK237 BK243 BK249 BK255 HB hHeld ⊢
       refine take_ (i := 0) (N := some 79) (v := ?_) (a' := ?_) mk_1 rfl rfl (take_ofW HT_.out HW_.out (by kernel_rfl)) (fun _ _ _ h => h) (Or.inl ⟨by rfl, ?_⟩) hHeld ?_ ?_
       rotate_left
       ·rintro w' ⟨s0, s1, s2, s3⟩
        go_simp
        with_reducible rfl
       rotate_left
       ·simp only [Act.put, List.setIfInBounds_toArray, List.set_cons_zero, List.set_cons_succ, i64_w, i32_w]
        rfl
       refine take_ (i := 2) (N := some 81) (v := ?_) (a' := ?_) mk_2 rfl rfl (take_ofW HT_.out HW_.out (by kernel_rfl)) (fun _ _ _ h => h) (Or.inl ⟨by rfl, ?_⟩) hHeld ?_ ?_
       rotate_left
       ·rintro w' ⟨s0, s1, s2, s3⟩
        go_simp
        with_reducible rfl
       rotate_left
       ·simp only [Act.put, List.setIfInBounds_toArray, List.set_cons_zero, List.set_cons_succ, i64_w, i32_w]
        rfl
       refine one_ (i := 1) (N := some 80) mk_3 rfl rfl (one_of HT_.out (by kernel_rfl)) (by decide) (fun K hK => ?_)
       refine goes_ Tryd.func33 (by kernel_rfl) rfl #[.agg #[.int .i64 a0_0, .bool a0_1, .string a0_2, .string a0_3]] (by rfl) rfl rfl (by (try simp only [List.map_toArray, List.map_cons, List.map_nil]); first | done | rfl | (simp only [List.length_drop, List.length_take]; rfl)) ?_
       with_reducible refine (dec_Good.calls kj8 a0_0 a0_1 a0_2 a0_3 t256 _ A28.out).mono ?_
       rintro e w206 ⟨rfl, hb⟩
       refine ⟨_, rfl, ?_⟩
       have n0_ := Aside0.mk (blk_below (g := gb230) (o := .cells #[.int .i64 a0_0, .bool a0_1, .string a0_2, .string a0_3] 40 (0, 0)) bk hb)
       have n1_ := Aside0.mk (blk_below (g := gb237) (o := .cells #[.int .i64 t232, .bool t233, .string t234, .string t235] 40 (0, 0)) bk hb)
       have n2_ := Aside0.mk (blk_below (g := gb243) (o := .cells #[.int .i64 t238, .bool t239, .string t240, .string t241] 40 (0, 0)) bk hb)
       have n3_ := Aside0.mk (blk_below (g := gb249) (o := .cells #[.int .i64 t244, .bool t245, .string t246, .string t247] 40 (0, 0)) bk hb)
       have n4_ := Aside0.mk (blk_below (g := gb255) (o := .cells #[.int .i64 t250, .bool t251, .string t252, .string t253] 40 (0, 0)) bk hb)
       have n5_ := Aside0.mk (below_step bl hb)
       clear BK230
       clear BK237
       clear BK243
       clear BK249
       clear BK255
       clear HB
       have BK230 := n0_
       have BK237 := n1_
       have BK243 := n2_
       have BK249 := n3_
       have BK255 := n4_
       have HB := n5_
       clear n0_ n1_ n2_ n3_ n4_ n5_
       (try clear hb)
       (try clear hb2)
       (try clear hk)
       (try clear hi)
       refine hK.out _ _ ⟨(blk_cell BK230.out 0).trans rfl, (blk_cell BK230.out 1).trans rfl, (blk_cell BK230.out 2).trans rfl, (blk_cell BK230.out 3).trans rfl⟩ (fun hHeld => ?_)
       clear hK K
       refine norm_ (a' := ?_) ?_ ?_
       rotate_left
       ·show Act.put _ (some 80) _ = _
        simp only [Act.put, List.setIfInBounds_toArray, List.set_cons_zero, List.set_cons_succ, i64_w, i32_w]
        rfl
       refine one_ (i := 3) (N := some 82) mk_4 rfl rfl (one_of HT_.out (by kernel_rfl)) (by decide) (fun K hK => ?_)
       refine goes_ Tryd.func34 (by kernel_rfl) rfl #[.agg #[.int .i64 a0_0, .bool a0_1, .string a0_2, .string a0_3]] (by rfl) rfl rfl (by (try simp only [List.map_toArray, List.map_cons, List.map_nil]); first | done | rfl | (simp only [List.length_drop, List.length_take]; rfl)) ?_
       with_reducible refine (targumref4_Dec.calls kj8 a0_0 a0_1 a0_2 a0_3 t257 _ A29.out).mono ?_
       rintro e w207 ⟨rfl, hb⟩
       refine ⟨_, rfl, ?_⟩
       have n0_ := Aside0.mk (blk_below (g := gb230) (o := .cells #[.int .i64 a0_0, .bool a0_1, .string a0_2, .string a0_3] 40 (0, 0)) bk hb)
       have n1_ := Aside0.mk (blk_below (g := gb237) (o := .cells #[.int .i64 t232, .bool t233, .string t234, .string t235] 40 (0, 0)) bk hb)
       have n2_ := Aside0.mk (blk_below (g := gb243) (o := .cells #[.int .i64 t238, .bool t239, .string t240, .string t241] 40 (0, 0)) bk hb)
       have n3_ := Aside0.mk (blk_below (g := gb249) (o := .cells #[.int .i64 t244, .bool t245, .string t246, .string t247] 40 (0, 0)) bk hb)
       have n4_ := Aside0.mk (blk_below (g := gb255) (o := .cells #[.int .i64 t250, .bool t251, .string t252, .string t253] 40 (0, 0)) bk hb)
       have n5_ := Aside0.mk (below_step bl hb)
       clear BK230
       clear BK237
       clear BK243
       clear BK249
       clear BK255
       clear HB
       have BK230 := n0_
       have BK237 := n1_
       have BK243 := n2_
       have BK249 := n3_
       have BK255 := n4_
       have HB := n5_
       clear n0_ n1_ n2_ n3_ n4_ n5_
       (try clear hb)
       (try clear hb2)
       (try clear hk)
       (try clear hi)
       refine hK.out _ _ ⟨(blk_cell BK230.out 0).trans rfl, (blk_cell BK230.out 1).trans rfl, (blk_cell BK230.out 2).trans rfl, (blk_cell BK230.out 3).trans rfl⟩ (fun hHeld => ?_)
       clear hK K
       refine norm_ (a' := ?_) ?_ ?_
       rotate_left
       ·show Act.put _ (some 82) _ = _
        simp only [Act.put, List.setIfInBounds_toArray, List.set_cons_zero, List.set_cons_succ, i64_w, i32_w]
        rfl
       refine pure_ (i := 4) (N := some 83) (v := ?_) (a' := ?_) mk_5 rfl rfl (any_of HT_.out (by kernel_rfl)) (fun _ _ _ h => h) (Or.inl ⟨by rfl, ?_⟩) ?_ ?_
       rotate_left
       ·intro w'
        go_simp
        with_reducible rfl
       rotate_left
       ·simp only [Act.put, List.setIfInBounds_toArray, List.set_cons_zero, List.set_cons_succ, i64_w, i32_w]
        rfl
       refine pure_ (i := 5) (N := some 84) (v := ?_) (a' := ?_) mk_6 rfl rfl (any_of HT_.out (by kernel_rfl)) (fun _ _ _ h => h) (Or.inl ⟨by rfl, ?_⟩) ?_ ?_
       rotate_left
       ·intro w'
        go_simp
        with_reducible rfl
       rotate_left
       ·simp only [Act.put, List.setIfInBounds_toArray, List.set_cons_zero, List.set_cons_succ, i64_w, i32_w]
        rfl
       refine take_ (i := 6) (N := some 85) (v := ?_) (a' := ?_) mk_7 rfl rfl (take_ofW HT_.out HW_.out (by kernel_rfl)) (fun _ _ _ h => h) (Or.inl ⟨by rfl, ?_⟩) hHeld ?_ ?_
       rotate_left
       ·rintro w' ⟨s0, s1, s2, s3⟩
        go_simp
        with_reducible rfl
       rotate_left
       ·simp only [Act.put, List.setIfInBounds_toArray, List.set_cons_zero, List.set_cons_succ, i64_w, i32_w]
        rfl
       refine take_ (i := 8) (N := some 87) (v := ?_) (a' := ?_) mk_8 rfl rfl (take_ofW HT_.out HW_.out (by kernel_rfl)) (fun _ _ _ h => h) (Or.inl ⟨by rfl, ?_⟩) hHeld ?_ ?_
       rotate_left
       ·rintro w' ⟨s0, s1, s2, s3⟩
        go_simp
        with_reducible rfl
       rotate_left
       ·simp only [Act.put, List.setIfInBounds_toArray, List.set_cons_zero, List.set_cons_succ, i64_w, i32_w]
        rfl
       refine one_ (i := 7) (N := some 86) mk_9 rfl rfl (one_of HT_.out (by kernel_rfl)) (by decide) (fun K hK => ?_)
       refine goes_ Tryd.func35 (by kernel_rfl) rfl #[.agg #[.int .i64 a0_0, .bool a0_1, .string a0_2, .string a0_3]] (by rfl) rfl rfl (by (try simp only [List.map_toArray, List.map_cons, List.map_nil]); first | done | rfl | (simp only [List.length_drop, List.length_take]; rfl)) ?_
       with_reducible refine (dec_Print.calls kj8 a0_0 a0_1 a0_2 a0_3 t258 _ A31.out).mono ?_
       rintro e w208 ⟨rfl, hb⟩
       refine ⟨_, rfl, ?_⟩
       have n0_ := Aside0.mk (blk_below (g := gb230) (o := .cells #[.int .i64 a0_0, .bool a0_1, .string a0_2, .string a0_3] 40 (0, 0)) bk hb)
       have n1_ := Aside0.mk (blk_below (g := gb237) (o := .cells #[.int .i64 t232, .bool t233, .string t234, .string t235] 40 (0, 0)) bk hb)
       have n2_ := Aside0.mk (blk_below (g := gb243) (o := .cells #[.int .i64 t238, .bool t239, .string t240, .string t241] 40 (0, 0)) bk hb)
       have n3_ := Aside0.mk (blk_below (g := gb249) (o := .cells #[.int .i64 t244, .bool t245, .string t246, .string t247] 40 (0, 0)) bk hb)
       have n4_ := Aside0.mk (blk_below (g := gb255) (o := .cells #[.int .i64 t250, .bool t251, .string t252, .string t253] 40 (0, 0)) bk hb)
       have n5_ := Aside0.mk (below_step bl hb)
       clear BK230
       clear BK237
       clear BK243
       clear BK249
       clear BK255
       clear HB
       have BK230 := n0_
       have BK237 := n1_
       have BK243 := n2_
       have BK249 := n3_
       have BK255 := n4_
       have HB := n5_
       clear n0_ n1_ n2_ n3_ n4_ n5_
       (try clear hb)
       (try clear hb2)
       (try clear hk)
       (try clear hi)
       refine hK.out _ _ ⟨(blk_cell BK230.out 0).trans rfl, (blk_cell BK230.out 1).trans rfl, (blk_cell BK230.out 2).trans rfl, (blk_cell BK230.out 3).trans rfl⟩ (fun hHeld => ?_)
       clear hK K
       refine norm_ (a' := ?_) ?_ ?_
       rotate_left
       ·show Act.put _ (some 86) _ = _
        simp only [Act.put, List.setIfInBounds_toArray, List.set_cons_zero, List.set_cons_succ, i64_w, i32_w]
        rfl
       refine one_ (i := 9) (N := some 88) mk_10 rfl rfl (one_of HT_.out (by kernel_rfl)) (by decide) (fun K hK => ?_)
       refine goes_ Tryd.func36 (by kernel_rfl) rfl #[.agg #[.int .i64 a0_0, .bool a0_1, .string a0_2, .string a0_3]] (by rfl) rfl rfl (by (try simp only [List.map_toArray, List.map_cons, List.map_nil]); first | done | rfl | (simp only [List.length_drop, List.length_take]; rfl)) ?_
       with_reducible refine (targumref4_Print.calls kj8 a0_0 a0_1 a0_2 a0_3 t259 _ A32.out).mono ?_
       rintro e w209 ⟨rfl, hb⟩
       refine ⟨_, rfl, ?_⟩
       have n0_ := Aside0.mk (blk_below (g := gb230) (o := .cells #[.int .i64 a0_0, .bool a0_1, .string a0_2, .string a0_3] 40 (0, 0)) bk hb)
       have n1_ := Aside0.mk (blk_below (g := gb237) (o := .cells #[.int .i64 t232, .bool t233, .string t234, .string t235] 40 (0, 0)) bk hb)
       have n2_ := Aside0.mk (blk_below (g := gb243) (o := .cells #[.int .i64 t238, .bool t239, .string t240, .string t241] 40 (0, 0)) bk hb)
       have n3_ := Aside0.mk (blk_below (g := gb249) (o := .cells #[.int .i64 t244, .bool t245, .string t246, .string t247] 40 (0, 0)) bk hb)
       have n4_ := Aside0.mk (blk_below (g := gb255) (o := .cells #[.int .i64 t250, .bool t251, .string t252, .string t253] 40 (0, 0)) bk hb)
       have n5_ := Aside0.mk (below_step bl hb)
       clear BK230
       clear BK237
       clear BK243
       clear BK249
       clear BK255
       clear HB
       have BK230 := n0_
       have BK237 := n1_
       have BK243 := n2_
       have BK249 := n3_
       have BK255 := n4_
       have HB := n5_
       clear n0_ n1_ n2_ n3_ n4_ n5_
       (try clear hb)
       (try clear hb2)
       (try clear hk)
       (try clear hi)
       refine hK.out _ _ ⟨(blk_cell BK230.out 0).trans rfl, (blk_cell BK230.out 1).trans rfl, (blk_cell BK230.out 2).trans rfl, (blk_cell BK230.out 3).trans rfl⟩ (fun hHeld => ?_)
       clear hK K
       refine norm_ (a' := ?_) ?_ ?_
       rotate_left
       ·show Act.put _ (some 88) _ = _
        simp only [Act.put, List.setIfInBounds_toArray, List.set_cons_zero, List.set_cons_succ, i64_w, i32_w]
        rfl
       refine pure_ (i := 10) (N := some 89) (v := ?_) (a' := ?_) mk_11 rfl rfl (any_of HT_.out (by kernel_rfl)) (fun _ _ _ h => h) (Or.inl ⟨by rfl, ?_⟩) ?_ ?_
       rotate_left
       ·intro w'
        go_simp
        with_reducible rfl
       rotate_left
       ·simp only [Act.put, List.setIfInBounds_toArray, List.set_cons_zero, List.set_cons_succ, i64_w, i32_w]
        rfl
       refine pure_ (i := 11) (N := some 90) (v := ?_) (a' := ?_) mk_12 rfl rfl (any_of HT_.out (by kernel_rfl)) (fun _ _ _ h => h) (Or.inl ⟨by rfl, ?_⟩) ?_ ?_
       rotate_left
       ·intro w'
        go_simp
        with_reducible rfl
       rotate_left
       ·simp only [Act.put, List.setIfInBounds_toArray, List.set_cons_zero, List.set_cons_succ, i64_w, i32_w]
        rfl
       refine pure_ (i := 12) (N := some 91) (v := ?_) (a' := ?_) mk_13 rfl rfl (any_of HT_.out (by kernel_rfl)) (fun _ _ _ h => h) (Or.inl ⟨by rfl, ?_⟩) ?_ ?_
       rotate_left
       ·intro w'
        go_simp
        with_reducible rfl
       rotate_left
       ·simp only [Act.put, List.setIfInBounds_toArray, List.set_cons_zero, List.set_cons_succ, i64_w, i32_w]
        rfl
       refine pure_ (i := 13) (N := some 92) (v := undef) (a' := ?_) mk_14 rfl rfl (any_of HT_.out (by kernel_rfl)) (fun _ _ _ h => h) (Or.inr ⟨by rfl, rfl⟩) ?_ ?_
       rotate_left
       ·simp only [Act.put, List.setIfInBounds_toArray, List.set_cons_zero, List.set_cons_succ, i64_w, i32_w]
        rfl
       refine pure_ (i := 14) (N := some 93) (v := undef) (a' := ?_) mk_15 rfl rfl (any_of HT_.out (by kernel_rfl)) (fun _ _ _ h => h) (Or.inr ⟨by rfl, rfl⟩) ?_ ?_
       rotate_left
       ·simp only [Act.put, List.setIfInBounds_toArray, List.set_cons_zero, List.set_cons_succ, i64_w, i32_w]
        rfl
       refine pure_ (i := 15) (N := some 94) (v := undef) (a' := ?_) mk_16 rfl rfl (any_of HT_.out (by kernel_rfl)) (fun _ _ _ h => h) (Or.inr ⟨by rfl, rfl⟩) ?_ ?_
       rotate_left
       ·simp only [Act.put, List.setIfInBounds_toArray, List.set_cons_zero, List.set_cons_succ, i64_w, i32_w]
        rfl
       refine pure_ (i := 16) (N := some 95) (v := ?_) (a' := ?_) mk_17 rfl rfl (any_of HT_.out (by kernel_rfl)) (fun _ _ _ h => h) (Or.inl ⟨by rfl, ?_⟩) ?_ ?_
       rotate_left
       ·intro w'
        go_simp
        with_reducible rfl
       rotate_left
       ·simp only [Act.put, List.setIfInBounds_toArray, List.set_cons_zero, List.set_cons_succ, i64_w, i32_w]
        rfl
       refine pure_ (i := 17) (N := some 96) (v := ?_) (a' := ?_) mk_18 rfl rfl (any_of HT_.out (by kernel_rfl)) (fun _ _ _ h => h) (Or.inl ⟨by rfl, ?_⟩) ?_ ?_
       rotate_left
       ·intro w'
        go_simp
        with_reducible rfl
       rotate_left
       ·simp only [Act.put, List.setIfInBounds_toArray, List.set_cons_zero, List.set_cons_succ, i64_w, i32_w]
        rfl
       refine pure_ (i := 18) (N := some 97) (v := undef) (a' := ?_) mk_19 rfl rfl (any_of HT_.out (by kernel_rfl)) (fun _ _ _ h => h) (Or.inr ⟨by rfl, rfl⟩) ?_ ?_
       rotate_left
       ·simp only [Act.put, List.setIfInBounds_toArray, List.set_cons_zero, List.set_cons_succ, i64_w, i32_w]
        rfl
       refine pure_ (i := 19) (N := some 98) (v := undef) (a' := ?_) mk_20 rfl rfl (any_of HT_.out (by kernel_rfl)) (fun _ _ _ h => h) (Or.inr ⟨by rfl, rfl⟩) ?_ ?_
       rotate_left
       ·simp only [Act.put, List.setIfInBounds_toArray, List.set_cons_zero, List.set_cons_succ, i64_w, i32_w]
        rfl
       refine pure_ (i := 20) (N := some 99) (v := undef) (a' := ?_) mk_21 rfl rfl (any_of HT_.out (by kernel_rfl)) (fun _ _ _ h => h) (Or.inr ⟨by rfl, rfl⟩) ?_ ?_
       rotate_left
       ·simp only [Act.put, List.setIfInBounds_toArray, List.set_cons_zero, List.set_cons_succ, i64_w, i32_w]
        rfl
       refine pure_ (i := 21) (N := some 100) (v := ?_) (a' := ?_) mk_22 rfl rfl (any_of HT_.out (by kernel_rfl)) (fun _ _ _ h => h) (Or.inl ⟨by rfl, ?_⟩) ?_ ?_
       rotate_left
       ·intro w'
        go_simp
        with_reducible rfl
       rotate_left
       ·simp only [Act.put, List.setIfInBounds_toArray, List.set_cons_zero, List.set_cons_succ, i64_w, i32_w]
        rfl
       refine pure_ (i := 22) (N := some 101) (v := ?_) (a' := ?_) mk_23 rfl rfl (any_of HT_.out (by kernel_rfl)) (fun _ _ _ h => h) (Or.inl ⟨by rfl, ?_⟩) ?_ ?_
       rotate_left
       ·intro w'
        go_simp
        with_reducible rfl
       rotate_left
       ·simp only [Act.put, List.setIfInBounds_toArray, List.set_cons_zero, List.set_cons_succ, i64_w, i32_w]
        rfl
       refine pure_ (i := 23) (N := some 102) (v := undef) (a' := ?_) mk_24 rfl rfl (any_of HT_.out (by kernel_rfl)) (fun _ _ _ h => h) (Or.inr ⟨by rfl, rfl⟩) ?_ ?_
       rotate_left
       ·simp only [Act.put, List.setIfInBounds_toArray, List.set_cons_zero, List.set_cons_succ, i64_w, i32_w]
        rfl
       refine pure_ (i := 24) (N := some 103) (v := undef) (a' := ?_) mk_25 rfl rfl (any_of HT_.out (by kernel_rfl)) (fun _ _ _ h => h) (Or.inr ⟨by rfl, rfl⟩) ?_ ?_
       rotate_left
       ·simp only [Act.put, List.setIfInBounds_toArray, List.set_cons_zero, List.set_cons_succ, i64_w, i32_w]
        rfl
       refine pure_ (i := 25) (N := some 104) (v := undef) (a' := ?_) mk_26 rfl rfl (any_of HT_.out (by kernel_rfl)) (fun _ _ _ h => h) (Or.inr ⟨by rfl, rfl⟩) ?_ ?_
       rotate_left
       ·simp only [Act.put, List.setIfInBounds_toArray, List.set_cons_zero, List.set_cons_succ, i64_w, i32_w]
        rfl
       refine pure_ (i := 26) (N := some 105) (v := ?_) (a' := ?_) mk_27 rfl rfl (any_of HT_.out (by kernel_rfl)) (fun _ _ _ h => h) (Or.inl ⟨by rfl, ?_⟩) ?_ ?_
       rotate_left
       ·intro w'
        go_simp
        with_reducible rfl
       rotate_left
       ·simp only [Act.put, List.setIfInBounds_toArray, List.set_cons_zero, List.set_cons_succ, i64_w, i32_w]
        rfl
       refine pure_ (i := 27) (N := some 106) (v := ?_) (a' := ?_) mk_28 rfl rfl (any_of HT_.out (by kernel_rfl)) (fun _ _ _ h => h) (Or.inl ⟨by rfl, ?_⟩) ?_ ?_
       rotate_left
       ·intro w'
        go_simp
        with_reducible rfl
       rotate_left
       ·simp only [Act.put, List.setIfInBounds_toArray, List.set_cons_zero, List.set_cons_succ, i64_w, i32_w]
        rfl
       refine pure_ (i := 28) (N := some 107) (v := undef) (a' := ?_) mk_29 rfl rfl (any_of HT_.out (by kernel_rfl)) (fun _ _ _ h => h) (Or.inr ⟨by rfl, rfl⟩) ?_ ?_
       rotate_left
       ·simp only [Act.put, List.setIfInBounds_toArray, List.set_cons_zero, List.set_cons_succ, i64_w, i32_w]
        rfl
       refine pure_ (i := 29) (N := some 108) (v := undef) (a' := ?_) mk_30 rfl rfl (any_of HT_.out (by kernel_rfl)) (fun _ _ _ h => h) (Or.inr ⟨by rfl, rfl⟩) ?_ ?_
       rotate_left
       ·simp only [Act.put, List.setIfInBounds_toArray, List.set_cons_zero, List.set_cons_succ, i64_w, i32_w]
        rfl
       refine pure_ (i := 30) (N := some 109) (v := undef) (a' := ?_) mk_31 rfl rfl (any_of HT_.out (by kernel_rfl)) (fun _ _ _ h => h) (Or.inr ⟨by rfl, rfl⟩) ?_ ?_
       rotate_left
       ·simp only [Act.put, List.setIfInBounds_toArray, List.set_cons_zero, List.set_cons_succ, i64_w, i32_w]
        rfl
       refine pure_ (i := 31) (N := some 110) (v := ?_) (a' := ?_) mk_32 rfl rfl (any_of HT_.out (by kernel_rfl)) (fun _ _ _ h => h) (Or.inl ⟨by rfl, ?_⟩) ?_ ?_
       rotate_left
       ·intro w'
        go_simp
        with_reducible rfl
       rotate_left
       ·simp only [Act.put, List.setIfInBounds_toArray, List.set_cons_zero, List.set_cons_succ, i64_w, i32_w]
        rfl
       refine pure_ (i := 32) (N := some 111) (v := ?_) (a' := ?_) mk_33 rfl rfl (any_of HT_.out (by kernel_rfl)) (fun _ _ _ h => h) (Or.inl ⟨by rfl, ?_⟩) ?_ ?_
       rotate_left
       ·intro w'
        go_simp
        with_reducible rfl
       rotate_left
       ·simp only [Act.put, List.setIfInBounds_toArray, List.set_cons_zero, List.set_cons_succ, i64_w, i32_w]
        rfl
       refine pure_ (i := 33) (N := some 112) (v := undef) (a' := ?_) mk_34 rfl rfl (any_of HT_.out (by kernel_rfl)) (fun _ _ _ h => h) (Or.inr ⟨by rfl, rfl⟩) ?_ ?_
       rotate_left
       ·simp only [Act.put, List.setIfInBounds_toArray, List.set_cons_zero, List.set_cons_succ, i64_w, i32_w]
        rfl
       refine pure_ (i := 34) (N := some 113) (v := undef) (a' := ?_) mk_41 rfl rfl (any_of HT_.out (by kernel_rfl)) (fun _ _ _ h => h) (Or.inr ⟨by rfl, rfl⟩) ?_ ?_
       rotate_left
       ·simp only [Act.put, List.setIfInBounds_toArray, List.set_cons_zero, List.set_cons_succ, i64_w, i32_w]
        rfl
       refine pure_ (i := 35) (N := some 114) (v := undef) (a' := ?_) mk_36 rfl rfl (any_of HT_.out (by kernel_rfl)) (fun _ _ _ h => h) (Or.inr ⟨by rfl, rfl⟩) ?_ ?_
       rotate_left
       ·simp only [Act.put, List.setIfInBounds_toArray, List.set_cons_zero, List.set_cons_succ, i64_w, i32_w]
        rfl
       refine pure_ (i := 36) (N := some 115) (v := undef) (a' := ?_) mk_37 rfl rfl (any_of HT_.out (by kernel_rfl)) (fun _ _ _ h => h) (Or.inr ⟨by rfl, rfl⟩) ?_ ?_
       rotate_left
       ·simp only [Act.put, List.setIfInBounds_toArray, List.set_cons_zero, List.set_cons_succ, i64_w, i32_w]
        rfl
       refine pure_ (i := 37) (N := some 116) (v := undef) (a' := ?_) mk_38 rfl rfl (any_of HT_.out (by kernel_rfl)) (fun _ _ _ h => h) (Or.inr ⟨by rfl, rfl⟩) ?_ ?_
       rotate_left
       ·simp only [Act.put, List.setIfInBounds_toArray, List.set_cons_zero, List.set_cons_succ, i64_w, i32_w]
        rfl
       refine pure_ (i := 38) (N := some 117) (v := ?_) (a' := ?_) mk_39 rfl rfl (any_of HT_.out (by kernel_rfl)) (fun _ _ _ h => h) (Or.inl ⟨by rfl, ?_⟩) ?_ ?_
       rotate_left
       ·intro w'
        go_simp
        with_reducible rfl
       rotate_left
       ·simp only [Act.put, List.setIfInBounds_toArray, List.set_cons_zero, List.set_cons_succ, i64_w, i32_w]
        rfl
       refine pure_ (i := 39) (N := some 12) (v := ?_) (a' := ?_) mk_40 rfl rfl (any_of HT_.out (by kernel_rfl)) (fun _ _ _ h => h) (Or.inl ⟨by rfl, ?_⟩) ?_ ?_
       rotate_left
       ·intro w'
        go_simp
        with_reducible rfl
       rotate_left
       ·simp only [Act.put, List.setIfInBounds_toArray, List.set_cons_zero, List.set_cons_succ, i64_w, i32_w]
        rfl
       refine done_ (done_of HT_.out (by kernel_rfl)) ?_
       try go_wp2
       go_ret
       exact ⟨by first | rfl | (simp [errW_none, errW_some] <;> rfl) | (simp [*, errW_none, errW_some] <;> rfl), bl⟩
     ·rw [if_neg c30] at H
      have c30b0 : (t256 == t257) = false := by simpa using c30
      (try (have c30b1 : decide (t256 = t257) = false := by simpa using c30))
      (try (have c30b2 : (t256 == t257) = false := by simpa using c30))
      (try (have c30b3 : ¬ (t256 = t257) := by simpa using c30))
      clear c30
      obtain rfl := Option.some.inj H
      refine start_ (n := 40) (S := fun w' => w'.cell? ⟨gb230, 0, none⟩ = some (.int .i64 a0_0) ∧ w'.cell? ⟨gb230, 1, none⟩ = some (.bool a0_1) ∧ w'.cell? ⟨gb230, 2, none⟩ = some (.string a0_2) ∧ w'.cell? ⟨gb230, 3, none⟩ = some (.string a0_3)) (ds := []) mk_0 (by kernel_rfl) rfl rfl ⟨(blk_cell BK230.out 0).trans rfl, (blk_cell BK230.out 1).trans rfl, (blk_cell BK230.out 2).trans rfl, (blk_cell BK230.out 3).trans rfl⟩ (fun hHeld => ?_); refine with_tabW targumlaw5_DecTells.tab9 targumlaw5_DecTells.bits9 (fun HT_ HW_ => ?_)
      generalize w62.drew = w233 at BK230 BK237 BK243 BK249 BK255 HB hHeld ⊢
      refine take_ (i := 0) (N := some 79) (v := ?_) (a' := ?_) mk_1 rfl rfl (take_ofW HT_.out HW_.out (by kernel_rfl)) (fun _ _ _ h => h) (Or.inl ⟨by rfl, ?_⟩) hHeld ?_ ?_
      rotate_left
      ·rintro w' ⟨s0, s1, s2, s3⟩
       go_simp
       with_reducible rfl
      rotate_left
      ·simp only [Act.put, List.setIfInBounds_toArray, List.set_cons_zero, List.set_cons_succ, i64_w, i32_w]
       rfl
      refine take_ (i := 2) (N := some 81) (v := ?_) (a' := ?_) mk_2 rfl rfl (take_ofW HT_.out HW_.out (by kernel_rfl)) (fun _ _ _ h => h) (Or.inl ⟨by rfl, ?_⟩) hHeld ?_ ?_
      rotate_left
      ·rintro w' ⟨s0, s1, s2, s3⟩
       go_simp
       with_reducible rfl
      rotate_left
      ·simp only [Act.put, List.setIfInBounds_toArray, List.set_cons_zero, List.set_cons_succ, i64_w, i32_w]
       rfl
      refine one_ (i := 1) (N := some 80) mk_3 rfl rfl (one_of HT_.out (by kernel_rfl)) (by decide) (fun K hK => ?_)
      refine goes_ Tryd.func33 (by kernel_rfl) rfl #[.agg #[.int .i64 a0_0, .bool a0_1, .string a0_2, .string a0_3]] (by rfl) rfl rfl (by (try simp only [List.map_toArray, List.map_cons, List.map_nil]); first | done | rfl | (simp only [List.length_drop, List.length_take]; rfl)) ?_
      with_reducible refine (dec_Good.calls kj8 a0_0 a0_1 a0_2 a0_3 t256 _ A28.out).mono ?_
      rintro e w234 ⟨rfl, hb⟩
      refine ⟨_, rfl, ?_⟩
      have n0_ := Aside0.mk (blk_below (g := gb230) (o := .cells #[.int .i64 a0_0, .bool a0_1, .string a0_2, .string a0_3] 40 (0, 0)) bk hb)
      have n1_ := Aside0.mk (blk_below (g := gb237) (o := .cells #[.int .i64 t232, .bool t233, .string t234, .string t235] 40 (0, 0)) bk hb)
      have n2_ := Aside0.mk (blk_below (g := gb243) (o := .cells #[.int .i64 t238, .bool t239, .string t240, .string t241] 40 (0, 0)) bk hb)
      have n3_ := Aside0.mk (blk_below (g := gb249) (o := .cells #[.int .i64 t244, .bool t245, .string t246, .string t247] 40 (0, 0)) bk hb)
      have n4_ := Aside0.mk (blk_below (g := gb255) (o := .cells #[.int .i64 t250, .bool t251, .string t252, .string t253] 40 (0, 0)) bk hb)
      have n5_ := Aside0.mk (below_step bl hb)
      clear BK230
      clear BK237
      clear BK243
      clear BK249
      clear BK255
      clear HB
      have BK230 := n0_
      have BK237 := n1_
      have BK243 := n2_
      have BK249 := n3_
      have BK255 := n4_
      have HB := n5_
      clear n0_ n1_ n2_ n3_ n4_ n5_
      (try clear hb)
      (try clear hb2)
      (try clear hk)
      (try clear hi)
      refine hK.out _ _ ⟨(blk_cell BK230.out 0).trans rfl, (blk_cell BK230.out 1).trans rfl, (blk_cell BK230.out 2).trans rfl, (blk_cell BK230.out 3).trans rfl⟩ (fun hHeld => ?_)
      clear hK K
      refine norm_ (a' := ?_) ?_ ?_
      rotate_left
      ·show Act.put _ (some 80) _ = _
       simp only [Act.put, List.setIfInBounds_toArray, List.set_cons_zero, List.set_cons_succ, i64_w, i32_w]
       rfl
      refine one_ (i := 3) (N := some 82) mk_4 rfl rfl (one_of HT_.out (by kernel_rfl)) (by decide) (fun K hK => ?_)
      refine goes_ Tryd.func34 (by kernel_rfl) rfl #[.agg #[.int .i64 a0_0, .bool a0_1, .string a0_2, .string a0_3]] (by rfl) rfl rfl (by (try simp only [List.map_toArray, List.map_cons, List.map_nil]); first | done | rfl | (simp only [List.length_drop, List.length_take]; rfl)) ?_
      with_reducible refine (targumref4_Dec.calls kj8 a0_0 a0_1 a0_2 a0_3 t257 _ A29.out).mono ?_
      rintro e w235 ⟨rfl, hb⟩
      refine ⟨_, rfl, ?_⟩
      have n0_ := Aside0.mk (blk_below (g := gb230) (o := .cells #[.int .i64 a0_0, .bool a0_1, .string a0_2, .string a0_3] 40 (0, 0)) bk hb)
      have n1_ := Aside0.mk (blk_below (g := gb237) (o := .cells #[.int .i64 t232, .bool t233, .string t234, .string t235] 40 (0, 0)) bk hb)
      have n2_ := Aside0.mk (blk_below (g := gb243) (o := .cells #[.int .i64 t238, .bool t239, .string t240, .string t241] 40 (0, 0)) bk hb)
      have n3_ := Aside0.mk (blk_below (g := gb249) (o := .cells #[.int .i64 t244, .bool t245, .string t246, .string t247] 40 (0, 0)) bk hb)
      have n4_ := Aside0.mk (blk_below (g := gb255) (o := .cells #[.int .i64 t250, .bool t251, .string t252, .string t253] 40 (0, 0)) bk hb)
      have n5_ := Aside0.mk (below_step bl hb)
      clear BK230
      clear BK237
      clear BK243
      clear BK249
      clear BK255
      clear HB
      have BK230 := n0_
      have BK237 := n1_
      have BK243 := n2_
      have BK249 := n3_
      have BK255 := n4_
      have HB := n5_
      clear n0_ n1_ n2_ n3_ n4_ n5_
      (try clear hb)
      (try clear hb2)
      (try clear hk)
      (try clear hi)
      refine hK.out _ _ ⟨(blk_cell BK230.out 0).trans rfl, (blk_cell BK230.out 1).trans rfl, (blk_cell BK230.out 2).trans rfl, (blk_cell BK230.out 3).trans rfl⟩ (fun hHeld => ?_)
      clear hK K
      refine norm_ (a' := ?_) ?_ ?_
      rotate_left
      ·show Act.put _ (some 82) _ = _
       simp only [Act.put, List.setIfInBounds_toArray, List.set_cons_zero, List.set_cons_succ, i64_w, i32_w]
       rfl
      refine pure_ (i := 4) (N := some 83) (v := ?_) (a' := ?_) mk_5 rfl rfl (any_of HT_.out (by kernel_rfl)) (fun _ _ _ h => h) (Or.inl ⟨by rfl, ?_⟩) ?_ ?_
      rotate_left
      ·intro w'
       go_simp
       with_reducible rfl
      rotate_left
      ·simp only [Act.put, List.setIfInBounds_toArray, List.set_cons_zero, List.set_cons_succ, i64_w, i32_w]
       rfl
      refine pure_ (i := 5) (N := some 84) (v := ?_) (a' := ?_) mk_6 rfl rfl (any_of HT_.out (by kernel_rfl)) (fun _ _ _ h => h) (Or.inl ⟨by rfl, ?_⟩) ?_ ?_
      rotate_left
      ·intro w'
       go_simp
       with_reducible rfl
      rotate_left
      ·simp only [Act.put, List.setIfInBounds_toArray, List.set_cons_zero, List.set_cons_succ, i64_w, i32_w]
       rfl
      refine pure_ (i := 6) (N := some 85) (v := undef) (a' := ?_) mk_7 rfl rfl (any_of HT_.out (by kernel_rfl)) (fun _ _ _ h => h) (Or.inr ⟨by rfl, rfl⟩) ?_ ?_
      rotate_left
      ·simp only [Act.put, List.setIfInBounds_toArray, List.set_cons_zero, List.set_cons_succ, i64_w, i32_w]
       rfl
      refine pure_ (i := 7) (N := some 86) (v := undef) (a' := ?_) mk_42 rfl rfl (any_of HT_.out (by kernel_rfl)) (fun _ _ _ h => h) (Or.inr ⟨by rfl, rfl⟩) ?_ ?_
      rotate_left
      ·simp only [Act.put, List.setIfInBounds_toArray, List.set_cons_zero, List.set_cons_succ, i64_w, i32_w]
       rfl
      refine pure_ (i := 8) (N := some 87) (v := undef) (a' := ?_) mk_9 rfl rfl (any_of HT_.out (by kernel_rfl)) (fun _ _ _ h => h) (Or.inr ⟨by rfl, rfl⟩) ?_ ?_
      rotate_left
      ·simp only [Act.put, List.setIfInBounds_toArray, List.set_cons_zero, List.set_cons_succ, i64_w, i32_w]
       rfl
      refine pure_ (i := 9) (N := some 88) (v := undef) (a' := ?_) mk_10 rfl rfl (any_of HT_.out (by kernel_rfl)) (fun _ _ _ h => h) (Or.inr ⟨by rfl, rfl⟩) ?_ ?_
      rotate_left
      ·simp only [Act.put, List.setIfInBounds_toArray, List.set_cons_zero, List.set_cons_succ, i64_w, i32_w]
       rfl
      refine pure_ (i := 10) (N := some 89) (v := undef) (a' := ?_) mk_11 rfl rfl (any_of HT_.out (by kernel_rfl)) (fun _ _ _ h => h) (Or.inr ⟨by rfl, rfl⟩) ?_ ?_
      rotate_left
      ·simp only [Act.put, List.setIfInBounds_toArray, List.set_cons_zero, List.set_cons_succ, i64_w, i32_w]
       rfl
      refine pure_ (i := 11) (N := some 90) (v := ?_) (a' := ?_) mk_12 rfl rfl (any_of HT_.out (by kernel_rfl)) (fun _ _ _ h => h) (Or.inl ⟨by rfl, ?_⟩) ?_ ?_
      rotate_left
      ·intro w'
       go_simp
       with_reducible rfl
      rotate_left
      ·simp only [Act.put, List.setIfInBounds_toArray, List.set_cons_zero, List.set_cons_succ, i64_w, i32_w]
       rfl
      refine pure_ (i := 12) (N := some 91) (v := ?_) (a' := ?_) mk_13 rfl rfl (any_of HT_.out (by kernel_rfl)) (fun _ _ _ h => h) (Or.inl ⟨by rfl, ?_⟩) ?_ ?_
      rotate_left
      ·intro w'
       go_simp
       with_reducible rfl
      rotate_left
      ·simp only [Act.put, List.setIfInBounds_toArray, List.set_cons_zero, List.set_cons_succ, i64_w, i32_w]
       rfl
      refine pure_ (i := 13) (N := some 92) (v := undef) (a' := ?_) mk_14 rfl rfl (any_of HT_.out (by kernel_rfl)) (fun _ _ _ h => h) (Or.inr ⟨by rfl, rfl⟩) ?_ ?_
      rotate_left
      ·simp only [Act.put, List.setIfInBounds_toArray, List.set_cons_zero, List.set_cons_succ, i64_w, i32_w]
       rfl
      refine pure_ (i := 14) (N := some 93) (v := undef) (a' := ?_) mk_15 rfl rfl (any_of HT_.out (by kernel_rfl)) (fun _ _ _ h => h) (Or.inr ⟨by rfl, rfl⟩) ?_ ?_
      rotate_left
      ·simp only [Act.put, List.setIfInBounds_toArray, List.set_cons_zero, List.set_cons_succ, i64_w, i32_w]
       rfl
      refine pure_ (i := 15) (N := some 94) (v := undef) (a' := ?_) mk_16 rfl rfl (any_of HT_.out (by kernel_rfl)) (fun _ _ _ h => h) (Or.inr ⟨by rfl, rfl⟩) ?_ ?_
      rotate_left
      ·simp only [Act.put, List.setIfInBounds_toArray, List.set_cons_zero, List.set_cons_succ, i64_w, i32_w]
       rfl
      refine pure_ (i := 16) (N := some 95) (v := ?_) (a' := ?_) mk_17 rfl rfl (any_of HT_.out (by kernel_rfl)) (fun _ _ _ h => h) (Or.inl ⟨by rfl, ?_⟩) ?_ ?_
      rotate_left
      ·intro w'
       go_simp
       with_reducible rfl
      rotate_left
      ·simp only [Act.put, List.setIfInBounds_toArray, List.set_cons_zero, List.set_cons_succ, i64_w, i32_w]
       rfl
      refine pure_ (i := 17) (N := some 96) (v := ?_) (a' := ?_) mk_18 rfl rfl (any_of HT_.out (by kernel_rfl)) (fun _ _ _ h => h) (Or.inl ⟨by rfl, ?_⟩) ?_ ?_
      rotate_left
      ·intro w'
       go_simp
       with_reducible rfl
      rotate_left
      ·simp only [Act.put, List.setIfInBounds_toArray, List.set_cons_zero, List.set_cons_succ, i64_w, i32_w]
       rfl
      refine pure_ (i := 18) (N := some 97) (v := undef) (a' := ?_) mk_19 rfl rfl (any_of HT_.out (by kernel_rfl)) (fun _ _ _ h => h) (Or.inr ⟨by rfl, rfl⟩) ?_ ?_
      rotate_left
      ·simp only [Act.put, List.setIfInBounds_toArray, List.set_cons_zero, List.set_cons_succ, i64_w, i32_w]
       rfl
      refine pure_ (i := 19) (N := some 98) (v := undef) (a' := ?_) mk_20 rfl rfl (any_of HT_.out (by kernel_rfl)) (fun _ _ _ h => h) (Or.inr ⟨by rfl, rfl⟩) ?_ ?_
      rotate_left
      ·simp only [Act.put, List.setIfInBounds_toArray, List.set_cons_zero, List.set_cons_succ, i64_w, i32_w]
       rfl
      refine pure_ (i := 20) (N := some 99) (v := undef) (a' := ?_) mk_21 rfl rfl (any_of HT_.out (by kernel_rfl)) (fun _ _ _ h => h) (Or.inr ⟨by rfl, rfl⟩) ?_ ?_
      rotate_left
      ·simp only [Act.put, List.setIfInBounds_toArray, List.set_cons_zero, List.set_cons_succ, i64_w, i32_w]
       rfl
      refine pure_ (i := 21) (N := some 100) (v := ?_) (a' := ?_) mk_22 rfl rfl (any_of HT_.out (by kernel_rfl)) (fun _ _ _ h => h) (Or.inl ⟨by rfl, ?_⟩) ?_ ?_
      rotate_left
      ·intro w'
       go_simp
       with_reducible rfl
      rotate_left
      ·simp only [Act.put, List.setIfInBounds_toArray, List.set_cons_zero, List.set_cons_succ, i64_w, i32_w]
       rfl
      refine pure_ (i := 22) (N := some 101) (v := ?_) (a' := ?_) mk_23 rfl rfl (any_of HT_.out (by kernel_rfl)) (fun _ _ _ h => h) (Or.inl ⟨by rfl, ?_⟩) ?_ ?_
      rotate_left
      ·intro w'
       go_simp
       with_reducible rfl
      rotate_left
      ·simp only [Act.put, List.setIfInBounds_toArray, List.set_cons_zero, List.set_cons_succ, i64_w, i32_w]
       rfl
      refine pure_ (i := 23) (N := some 102) (v := undef) (a' := ?_) mk_24 rfl rfl (any_of HT_.out (by kernel_rfl)) (fun _ _ _ h => h) (Or.inr ⟨by rfl, rfl⟩) ?_ ?_
      rotate_left
      ·simp only [Act.put, List.setIfInBounds_toArray, List.set_cons_zero, List.set_cons_succ, i64_w, i32_w]
       rfl
      refine pure_ (i := 24) (N := some 103) (v := undef) (a' := ?_) mk_25 rfl rfl (any_of HT_.out (by kernel_rfl)) (fun _ _ _ h => h) (Or.inr ⟨by rfl, rfl⟩) ?_ ?_
      rotate_left
      ·simp only [Act.put, List.setIfInBounds_toArray, List.set_cons_zero, List.set_cons_succ, i64_w, i32_w]
       rfl
      refine pure_ (i := 25) (N := some 104) (v := undef) (a' := ?_) mk_26 rfl rfl (any_of HT_.out (by kernel_rfl)) (fun _ _ _ h => h) (Or.inr ⟨by rfl, rfl⟩) ?_ ?_
      rotate_left
      ·simp only [Act.put, List.setIfInBounds_toArray, List.set_cons_zero, List.set_cons_succ, i64_w, i32_w]
       rfl
      refine pure_ (i := 26) (N := some 105) (v := ?_) (a' := ?_) mk_27 rfl rfl (any_of HT_.out (by kernel_rfl)) (fun _ _ _ h => h) (Or.inl ⟨by rfl, ?_⟩) ?_ ?_
      rotate_left
      ·intro w'
       go_simp
       with_reducible rfl
      rotate_left
      ·simp only [Act.put, List.setIfInBounds_toArray, List.set_cons_zero, List.set_cons_succ, i64_w, i32_w]
       rfl
      refine pure_ (i := 27) (N := some 106) (v := ?_) (a' := ?_) mk_28 rfl rfl (any_of HT_.out (by kernel_rfl)) (fun _ _ _ h => h) (Or.inl ⟨by rfl, ?_⟩) ?_ ?_
      rotate_left
      ·intro w'
       go_simp
       with_reducible rfl
      rotate_left
      ·simp only [Act.put, List.setIfInBounds_toArray, List.set_cons_zero, List.set_cons_succ, i64_w, i32_w]
       rfl
      refine pure_ (i := 28) (N := some 107) (v := undef) (a' := ?_) mk_29 rfl rfl (any_of HT_.out (by kernel_rfl)) (fun _ _ _ h => h) (Or.inr ⟨by rfl, rfl⟩) ?_ ?_
      rotate_left
      ·simp only [Act.put, List.setIfInBounds_toArray, List.set_cons_zero, List.set_cons_succ, i64_w, i32_w]
       rfl
      refine pure_ (i := 29) (N := some 108) (v := undef) (a' := ?_) mk_30 rfl rfl (any_of HT_.out (by kernel_rfl)) (fun _ _ _ h => h) (Or.inr ⟨by rfl, rfl⟩) ?_ ?_
      rotate_left
      ·simp only [Act.put, List.setIfInBounds_toArray, List.set_cons_zero, List.set_cons_succ, i64_w, i32_w]
       rfl
      refine pure_ (i := 30) (N := some 109) (v := undef) (a' := ?_) mk_31 rfl rfl (any_of HT_.out (by kernel_rfl)) (fun _ _ _ h => h) (Or.inr ⟨by rfl, rfl⟩) ?_ ?_
      rotate_left
      ·simp only [Act.put, List.setIfInBounds_toArray, List.set_cons_zero, List.set_cons_succ, i64_w, i32_w]
       rfl
      refine pure_ (i := 31) (N := some 110) (v := ?_) (a' := ?_) mk_32 rfl rfl (any_of HT_.out (by kernel_rfl)) (fun _ _ _ h => h) (Or.inl ⟨by rfl, ?_⟩) ?_ ?_
      rotate_left
      ·intro w'
       go_simp
       with_reducible rfl
      rotate_left
      ·simp only [Act.put, List.setIfInBounds_toArray, List.set_cons_zero, List.set_cons_succ, i64_w, i32_w]
       rfl
      refine pure_ (i := 32) (N := some 111) (v := ?_) (a' := ?_) mk_33 rfl rfl (any_of HT_.out (by kernel_rfl)) (fun _ _ _ h => h) (Or.inl ⟨by rfl, ?_⟩) ?_ ?_
      rotate_left
      ·intro w'
       go_simp
       with_reducible rfl
      rotate_left
      ·simp only [Act.put, List.setIfInBounds_toArray, List.set_cons_zero, List.set_cons_succ, i64_w, i32_w]
       rfl
      refine pure_ (i := 33) (N := some 112) (v := undef) (a' := ?_) mk_34 rfl rfl (any_of HT_.out (by kernel_rfl)) (fun _ _ _ h => h) (Or.inr ⟨by rfl, rfl⟩) ?_ ?_
      rotate_left
      ·simp only [Act.put, List.setIfInBounds_toArray, List.set_cons_zero, List.set_cons_succ, i64_w, i32_w]
       rfl
      refine pure_ (i := 34) (N := some 113) (v := undef) (a' := ?_) mk_41 rfl rfl (any_of HT_.out (by kernel_rfl)) (fun _ _ _ h => h) (Or.inr ⟨by rfl, rfl⟩) ?_ ?_
      rotate_left
      ·simp only [Act.put, List.setIfInBounds_toArray, List.set_cons_zero, List.set_cons_succ, i64_w, i32_w]
       rfl
      refine pure_ (i := 35) (N := some 114) (v := undef) (a' := ?_) mk_36 rfl rfl (any_of HT_.out (by kernel_rfl)) (fun _ _ _ h => h) (Or.inr ⟨by rfl, rfl⟩) ?_ ?_
      rotate_left
      ·simp only [Act.put, List.setIfInBounds_toArray, List.set_cons_zero, List.set_cons_succ, i64_w, i32_w]
       rfl
      refine pure_ (i := 36) (N := some 115) (v := undef) (a' := ?_) mk_37 rfl rfl (any_of HT_.out (by kernel_rfl)) (fun _ _ _ h => h) (Or.inr ⟨by rfl, rfl⟩) ?_ ?_
      rotate_left
      ·simp only [Act.put, List.setIfInBounds_toArray, List.set_cons_zero, List.set_cons_succ, i64_w, i32_w]
       rfl
      refine pure_ (i := 37) (N := some 116) (v := undef) (a' := ?_) mk_38 rfl rfl (any_of HT_.out (by kernel_rfl)) (fun _ _ _ h => h) (Or.inr ⟨by rfl, rfl⟩) ?_ ?_
      rotate_left
      ·simp only [Act.put, List.setIfInBounds_toArray, List.set_cons_zero, List.set_cons_succ, i64_w, i32_w]
       rfl
      refine pure_ (i := 38) (N := some 117) (v := ?_) (a' := ?_) mk_39 rfl rfl (any_of HT_.out (by kernel_rfl)) (fun _ _ _ h => h) (Or.inl ⟨by rfl, ?_⟩) ?_ ?_
      rotate_left
      ·intro w'
       go_simp
       with_reducible rfl
      rotate_left
      ·simp only [Act.put, List.setIfInBounds_toArray, List.set_cons_zero, List.set_cons_succ, i64_w, i32_w]
       rfl
      refine pure_ (i := 39) (N := some 12) (v := ?_) (a' := ?_) mk_40 rfl rfl (any_of HT_.out (by kernel_rfl)) (fun _ _ _ h => h) (Or.inl ⟨by rfl, ?_⟩) ?_ ?_
      rotate_left
      ·intro w'
       go_simp
       with_reducible rfl
      rotate_left
      ·simp only [Act.put, List.setIfInBounds_toArray, List.set_cons_zero, List.set_cons_succ, i64_w, i32_w]
       rfl
      refine done_ (done_of HT_.out (by kernel_rfl)) ?_
      try go_wp2
      go_ret
      exact ⟨by first | rfl | (simp [errW_none, errW_some] <;> rfl) | (simp [*, errW_none, errW_some] <;> rfl), bl⟩
 ·replace c8 := Bool.eq_false_iff.mpr c8
  subst c8
  have H1 : (some false) = some r := by rw [if_neg (show ¬ (false = true) by decide)] at H; exact H
  clear H
  have H := H1
  clear H1
  obtain rfl := Option.some.inj H
  go_enter Tryd.func9, Tryd.ntmps9
  go_wp2_with (first | ((with_reducible refine gate_dst (N := 6) rfl ?_); (try (refine gate_guard (by rfl) ?_; dsimp only)); refine box_event ?hg (N := 6) ?hd (cs := #[.int .i64 a0_0, .bool a0_1, .string a0_2, .string a0_3]) (t := 40) ?hr ?_; (case hd => rfl); (case hg => rfl); (case hr => first | (go_simp; done) | (go_simp; rfl)); intro gb230 hg w236 hbox hb; have n0_ := Aside0.mk (below_step bl hb); have n1_ := Aside0.mk (hbox); have n2_ := Aside0.mk ((by rw [hg]; exact (below_size bl) : w.heap.size ≤ gb230)); have n3_ := Aside0.mk ((by rw [hg]; exact (below_size bl) : w.heap.size ≤ gb230)); clear HB; have HB := n0_; have BK230 := n1_; have GW230 := n2_; have GE230 := n3_; clear n0_ n1_ n2_ n3_; clear hb hbox hg) | ((with_reducible refine gate_callee (f := 28) rfl ?_); refine goesL_ (some 21) rfl rfl Tryd.func28 (by kernel_rfl) rfl #[] rfl (by (try simp only [List.map_toArray, List.map_cons, List.map_nil]); first | done | rfl | (simp only [List.length_drop, List.length_take]; rfl)) ?_; (with_reducible refine (targumlaw5_known.calls k  false _ ?side1 A7.out).mono ?_); (case side1 => exact Go.Proofs.YtddaggnomcoejaaDoor.PDT.Tabs_below HG.out bl); rintro e w237 ⟨rfl, hb⟩; refine ⟨_, rfl, ?_⟩; have n0_ := Aside0.mk (blk_below (g := gb230) (o := .cells #[.int .i64 a0_0, .bool a0_1, .string a0_2, .string a0_3] 40 (0, 0)) bk hb); have n1_ := Aside0.mk (below_step bl hb); clear BK230; clear HB; have BK230 := n0_; have HB := n1_; clear n0_ n1_; (try clear hb); (try clear hb2); (try clear hk); (try clear hi)))
  go_ret
  exact ⟨by first | rfl | (simp [errW_none, errW_some] <;> rfl) | (simp [*, errW_none, errW_some] <;> rfl), bl⟩

/-- The pure statement of targumlaw5_DecTells. -/
def targumlaw5_DecTells.Pure : Prop := ∀ (a0_0 : Int) (a0_1 : Bool) (a0_2 : ByteArray) (a0_3 : ByteArray) (a1 : Bool) (a2 : ByteArray) (a3 : ByteArray) (a4 : ByteArray) (a5 : ByteArray), (Lit.int .i64 a0_0).wf = true → a0_2.size ≤ 140737488351232 → a0_3.size ≤ 140737488351232 → a2.size ≤ 140737488351232 → a3.size ≤ 140737488351232 → a4.size ≤ 140737488351232 → a5.size ≤ 140737488351232 → ∃ k, targumlaw5_DecTells.f k a0_0 a0_1 a0_2 a0_3 a1 a2 a3 a4 a5 = some true

end Go.Proofs.YtddaggnomcoejaaDoor.PD
