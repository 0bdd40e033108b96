/- Written by this session's own program (xprint, made over the kit's print): Lean functions with the same answers as the Go functions, and the proofs of that. Not trusted: Lean checks it. -/
import Derived.Test.YtddaggnomcoejaaDoorPDx0
import Derived.Test.YtddaggnomcoejaaDoorPDx1
import Derived.Test.YtddaggnomcoejaaDoorPDx3
import Derived.Test.YtddaggnomcoejaaDoorPDx4
import Derived.Test.YtddaggnomcoejaaDoorXW
namespace Go.Proofs.YtddaggnomcoejaaDoor.PD
open Go.Proofs.YtddaggnomcoejaaDoor.XW Go.RowKit Go.Proofs.YtddaggnomcoejaaDoorW.PrintWords Go.Proofs.YtddaggnomcoejaaDoorW.PrintLast Go.Proofs.YtddaggnomcoejaaDoorW.PrintMore
attribute [local go_sem] max2_int min2_int max_two min_two max_three min_three max_four min_four   -- for this text's walks alone
set_option linter.unusedVariables false
set_option linter.unusedSimpArgs false

attribute [local go_sem high] eqA40
/-! ### targumlaw5_DecBack: function 10 -/
mutual
def targumlaw5_DecBack.j0 : Nat → ByteArray → Bool → Int → Bool → ByteArray → ByteArray → Option (Bool)
 | 0, _, _, _, _, _, _ => none
 | k + 1, x1, x25, x263000, x263001, x263002, x263003 => if x25 = true then (some true) else ((dec_Print.f k x263000 x263001 x263002 x263003).bind fun t264 => ((dec_Parse.f k t264).bind fun bt265 => ((dec_Good.f k x263000 x263001 x263002 x263003).bind fun t271 => (if (t271 != bt265.2.2.2.2) = true then (targumlaw5_DecBack.j1 k x1 true) else (if bt265.2.2.2.2 = true then (targumlaw5_DecBack.j1 k x1 (!(bt265.1 == x263000) || (!(bt265.2.1 == x263001) || (!(bt265.2.2.1.toList == x263002.toList) || (!(bt265.2.2.2.1.toList == x263003.toList)))))) else (targumlaw5_DecBack.j1 k x1 false))))))
def targumlaw5_DecBack.j1 : Nat → ByteArray → Bool → Option (Bool)
 | 0, _, _ => none
 | k + 1, x1, x43 => if x43 = true then (some false) else ((dec_Parse.f k x1).bind fun bt272 => (if bt272.2.2.2.2 = true then ((dec_Good.f k bt272.1 bt272.2.1 bt272.2.2.1 bt272.2.2.2.1).bind fun t278 => (if t278 = true then ((dec_Print.f k bt272.1 bt272.2.1 bt272.2.2.1 bt272.2.2.2.1).bind fun t279 => (some (t279.toList == x1.toList))) else (some false))) else (if (bt272.1 == 0 && (!bt272.2.1 && (bt272.2.2.1.toList == ([] : List UInt8) && (bt272.2.2.2.1.toList == ([] : List UInt8))))) = true then (some true) else (some false))))
end
def targumlaw5_DecBack.f (k : Nat) (a0_0 : Int) (a0_1 : Bool) (a0_2 : ByteArray) (a0_3 : ByteArray) (a1 : ByteArray) : Option (Bool) := (targumlaw5_known.f k).bind fun t263 => (if t263 = true then (if (a0_2.size : Int) > 60 then (targumlaw5_DecBack.j0 k a1 true a0_0 a0_1 a0_2 a0_3) else (if (a0_3.size : Int) > 60 then (targumlaw5_DecBack.j0 k a1 true a0_0 a0_1 a0_2 a0_3) else (targumlaw5_DecBack.j0 k a1 (decide ((a1.size : Int) > 150)) a0_0 a0_1 a0_2 a0_3))) else (some false))
theorem targumlaw5_DecBack.mono_l : ∀ k, (∀ y0 y1 y2 y3 y4 y5, LeO (targumlaw5_DecBack.j0 k y0 y1 y2 y3 y4 y5) (targumlaw5_DecBack.j0 (k + 1) y0 y1 y2 y3 y4 y5)) ∧ (∀ y0 y1, LeO (targumlaw5_DecBack.j1 k y0 y1) (targumlaw5_DecBack.j1 (k + 1) y0 y1))
 | 0 => ⟨fun _ _ _ _ _ _ r h => by simp [targumlaw5_DecBack.j0] at h, fun _ _ r h => by simp [targumlaw5_DecBack.j1] at h⟩
 | k + 1 => by
  obtain ⟨ih0, ih1⟩ := targumlaw5_DecBack.mono_l k
  refine ⟨?_, ?_⟩
  ·intro y0 y1 y2 y3 y4 y5
   unfold targumlaw5_DecBack.j0
   repeat' first
   | (with_reducible exact ih0 _ _ _ _ _ _)
   | (with_reducible exact ih1 _ _)
   | (with_reducible exact dec_Good.mono _ _ _ _ _)
   | (with_reducible exact dec_Parse.mono _ _)
   | (with_reducible exact dec_Print.mono _ _ _ _ _)
   | (with_reducible exact targumlaw5_known.mono _)
   | (with_reducible exact LeO.refl _)
   | (with_reducible exact LeO.none _)
   | (with_reducible refine LeO.ite ?_ ?_)
   | (with_reducible refine LeO.bind ?_ (fun _ => ?_))
   | exact ih0 _ _ _ _ _ _
   | exact ih1 _ _
   | exact dec_Good.mono _ _ _ _ _
   | exact dec_Parse.mono _ _
   | exact dec_Print.mono _ _ _ _ _
   | exact targumlaw5_known.mono _
   | exact LeO.none _
   | refine LeO.ite ?_ ?_
   | refine LeO.bind ?_ (fun _ => ?_)
  ·intro y0 y1
   unfold targumlaw5_DecBack.j1
   repeat' first
   | (with_reducible exact ih0 _ _ _ _ _ _)
   | (with_reducible exact ih1 _ _)
   | (with_reducible exact dec_Good.mono _ _ _ _ _)
   | (with_reducible exact dec_Parse.mono _ _)
   | (with_reducible exact dec_Print.mono _ _ _ _ _)
   | (with_reducible exact targumlaw5_known.mono _)
   | (with_reducible exact LeO.refl _)
   | (with_reducible exact LeO.none _)
   | (with_reducible refine LeO.ite ?_ ?_)
   | (with_reducible refine LeO.bind ?_ (fun _ => ?_))
   | exact ih0 _ _ _ _ _ _
   | exact ih1 _ _
   | exact dec_Good.mono _ _ _ _ _
   | exact dec_Parse.mono _ _
   | exact dec_Print.mono _ _ _ _ _
   | exact targumlaw5_known.mono _
   | exact LeO.none _
   | refine LeO.ite ?_ ?_
   | refine LeO.bind ?_ (fun _ => ?_)
theorem targumlaw5_DecBack.mono : ∀ a0 a1 a2 a3 a4 k, LeO (targumlaw5_DecBack.f k a0 a1 a2 a3 a4) (targumlaw5_DecBack.f (k + 1) a0 a1 a2 a3 a4) := by
 intro a0 a1 a2 a3 a4 k
 obtain ⟨ih0, ih1⟩ := targumlaw5_DecBack.mono_l k
 unfold targumlaw5_DecBack.f
 repeat' first
   | (with_reducible exact ih0 _ _ _ _ _ _)
   | (with_reducible exact ih1 _ _)
   | (with_reducible exact dec_Good.mono _ _ _ _ _)
   | (with_reducible exact dec_Parse.mono _ _)
   | (with_reducible exact dec_Print.mono _ _ _ _ _)
   | (with_reducible exact targumlaw5_known.mono _)
   | (with_reducible exact LeO.refl _)
   | (with_reducible exact LeO.none _)
   | (with_reducible refine LeO.ite ?_ ?_)
   | (with_reducible refine LeO.bind ?_ (fun _ => ?_))
   | exact ih0 _ _ _ _ _ _
   | exact ih1 _ _
   | exact dec_Good.mono _ _ _ _ _
   | exact dec_Parse.mono _ _
   | exact dec_Print.mono _ _ _ _ _
   | exact targumlaw5_known.mono _
   | exact LeO.none _
   | refine LeO.ite ?_ ?_
   | refine LeO.bind ?_ (fun _ => ?_)
set_option maxHeartbeats 8000000 in
set_option maxRecDepth 100000 in
theorem targumlaw5_DecBack.calls (k : Nat) (a0_0 : Int) (a0_1 : Bool) (a0_2 : ByteArray) (a0_3 : ByteArray) (a1 : ByteArray) (r : Bool) (w : World) (hG : Go.Proofs.YtddaggnomcoejaaDoor.PDT.Tabs w) (h : targumlaw5_DecBack.f k a0_0 a0_1 a0_2 a0_3 a1 = some r) :
  Calls Tryd.prog 10 #[.agg #[.int .i64 a0_0, .bool a0_1, .string a0_2, .string a0_3], .string a1] w fun e w' => e = .returned (.bool r) ∧ Below w.heap.size w w' := by
 have hu40 := Tryd.underlying40
 have HG := Aside0.mk hG
 clear hG
 have HB := Aside0.mk (Below.refl w.heap.size w)
 have H : ((targumlaw5_known.f k).bind fun t263 => (if t263 = true then (if (a0_2.size : Int) > 60 then (targumlaw5_DecBack.j0 k a1 true a0_0 a0_1 a0_2 a0_3) else (if (a0_3.size : Int) > 60 then (targumlaw5_DecBack.j0 k a1 true a0_0 a0_1 a0_2 a0_3) else (targumlaw5_DecBack.j0 k a1 (decide ((a1.size : Int) > 150)) a0_0 a0_1 a0_2 a0_3))) else (some false))) = some r := h
 clear h
 replace H := Option.bind_eq_some_iff.mp H
 obtain ⟨t263, A30, H⟩ := H
 replace H : (if t263 = true then (if (a0_2.size : Int) > 60 then (targumlaw5_DecBack.j0 k a1 true a0_0 a0_1 a0_2 a0_3) else (if (a0_3.size : Int) > 60 then (targumlaw5_DecBack.j0 k a1 true a0_0 a0_1 a0_2 a0_3) else (targumlaw5_DecBack.j0 k a1 (decide ((a1.size : Int) > 150)) a0_0 a0_1 a0_2 a0_3))) else (some false)) = some r := H
 have A3 := Aside0.mk A30
 clear A30
 by_cases c4 : t263 = true
 ·subst c4
  have H1 : (if (a0_2.size : Int) > 60 then (targumlaw5_DecBack.j0 k a1 true a0_0 a0_1 a0_2 a0_3) else (if (a0_3.size : Int) > 60 then (targumlaw5_DecBack.j0 k a1 true a0_0 a0_1 a0_2 a0_3) else (targumlaw5_DecBack.j0 k a1 (decide ((a1.size : Int) > 150)) a0_0 a0_1 a0_2 a0_3))) = some r := by rw [if_pos rfl] at H; exact H
  clear H
  have H := H1
  clear H1
  have HC5 := Aside0.mk H
  clear H
  go_enter Tryd.func10, Tryd.ntmps10
  go_upto_region 3 with (first | ((with_reducible refine gate_dst (N := 2) rfl ?_); (try (refine gate_guard (by rfl) ?_; dsimp only)); refine box_event ?hg (N := 2) ?hd (cs := #[.int .i64 a0_0, .bool a0_1, .string a0_2, .string a0_3]) (t := 40) ?hr ?_; (case hd => rfl); (case hg => rfl); (case hr => first | (go_simp; done) | (go_simp; rfl)); intro gb262 hg w6 hbox hb; have n0_ := Aside0.mk (below_step bl hb); have n1_ := Aside0.mk (hbox); have n2_ := Aside0.mk ((by rw [hg]; exact (below_size bl) : w.heap.size ≤ gb262)); have n3_ := Aside0.mk ((by rw [hg]; exact (below_size bl) : w.heap.size ≤ gb262)); clear HB; have HB := n0_; have BK262 := n1_; have GW262 := n2_; have GE262 := n3_; clear n0_ n1_ n2_ n3_; clear hb hbox hg) | ((with_reducible refine gate_callee (f := 28) rfl ?_); refine goesL_ (some 9) rfl rfl Tryd.func28 (by kernel_rfl) rfl #[] rfl (by (try simp only [List.map_toArray, List.map_cons, List.map_nil]); first | done | rfl | (simp only [List.length_drop, List.length_take]; rfl)) ?_; (with_reducible refine (targumlaw5_known.calls k  true _ ?side1 A3.out).mono ?_); (case side1 => exact Go.Proofs.YtddaggnomcoejaaDoor.PDT.Tabs_below HG.out bl); rintro e w7 ⟨rfl, hb⟩; refine ⟨_, rfl, ?_⟩; have n0_ := Aside0.mk (blk_below (g := gb262) (o := .cells #[.int .i64 a0_0, .bool a0_1, .string a0_2, .string a0_3] 40 (0, 0)) bk hb); have n1_ := Aside0.mk (below_step bl hb); clear BK262; clear HB; have BK262 := n0_; have HB := n1_; clear n0_ n1_; (try clear hb); (try clear hb2); (try clear hk); (try clear hi)))
  (try simp only [Act.put, List.setIfInBounds_toArray, List.set_cons_zero, List.set_cons_succ])
  go_cut [25] (fun v25 wc => ∃ (kq : Nat) (x25_4 : Bool), v25 = .bool x25_4 ∧ Aside0 (targumlaw5_DecBack.j0 kq a1 x25_4 a0_0 a0_1 a0_2 a0_3 = some r) ∧ Aside0 (kq ≤ k) ∧ Aside0 (wc.heap[gb262]? = some (.cells #[.int .i64 a0_0, .bool a0_1, .string a0_2, .string a0_3] 40 (0, 0))) ∧ Aside0 (Below w.heap.size w wc))
  case first =>
   have H := HC5.out
   clear HC5
   by_cases c8 : (a0_2.size : Int) > 60
   ·rw [if_pos c8] at H
    have c8b0 : decide (60 < (a0_2.size : Int)) = true := decide_eq_true c8
    have c8b1 : decide (60 < a0_2.size) = true := decide_eq_true (by omega)
    clear c8
    (first | rw [c8b0] | (simp only [i64_w, i32_w]; rw [c8b0]) | skip)
    have H' := Aside0.mk H
    clear H
    have hcz9_0 : w7.cell? ⟨gb262, 0, none⟩ = some (.int .i64 a0_0) := (blk_cell BK262.out 0).trans rfl
    have hcz9_1 : w7.cell? ⟨gb262, 1, none⟩ = some (.bool a0_1) := (blk_cell BK262.out 1).trans rfl
    have hcz9_2 : w7.cell? ⟨gb262, 2, none⟩ = some (.string a0_2) := (blk_cell BK262.out 2).trans rfl
    have hcz9_3 : w7.cell? ⟨gb262, 3, none⟩ = some (.string a0_3) := (blk_cell BK262.out 3).trans rfl
    have hfz9_0 := blk_frozen BK262.out 0
    have hfz9_1 := blk_frozen BK262.out 1
    have hfz9_2 := blk_frozen BK262.out 2
    have hfz9_3 := blk_frozen BK262.out 3
    go_wp2
    go_meet
    case rel => exact ⟨_, (true), (by first | rfl | (simp; done) | (simp [*]; done) | (simp [wrap64]; done)), H', ⟨by first | omega | exact Nat.le_refl _⟩, ⟨by (with_reducible repeat (first | refine blk_drewN ?_ _ | refine blk_drew ?_ | refine blk_alloc ?_ _)); exact BK262.out⟩, ⟨bl⟩⟩
   ·rw [if_neg c8] at H
    have c8b0 : decide (60 < (a0_2.size : Int)) = false := decide_eq_false c8
    have c8b1 : decide (60 < a0_2.size) = false := decide_eq_false (by omega)
    clear c8
    (first | rw [c8b0] | (simp only [i64_w, i32_w]; rw [c8b0]) | skip)
    by_cases c10 : (a0_3.size : Int) > 60
    ·rw [if_pos c10] at H
     have c10b0 : decide (60 < (a0_3.size : Int)) = true := decide_eq_true c10
     have c10b1 : decide (60 < a0_3.size) = true := decide_eq_true (by omega)
     clear c10
     have H' := Aside0.mk H
     clear H
     have hcz11_0 : w7.cell? ⟨gb262, 0, none⟩ = some (.int .i64 a0_0) := (blk_cell BK262.out 0).trans rfl
     have hcz11_1 : w7.cell? ⟨gb262, 1, none⟩ = some (.bool a0_1) := (blk_cell BK262.out 1).trans rfl
     have hcz11_2 : w7.cell? ⟨gb262, 2, none⟩ = some (.string a0_2) := (blk_cell BK262.out 2).trans rfl
     have hcz11_3 : w7.cell? ⟨gb262, 3, none⟩ = some (.string a0_3) := (blk_cell BK262.out 3).trans rfl
     have hfz11_0 := blk_frozen BK262.out 0
     have hfz11_1 := blk_frozen BK262.out 1
     have hfz11_2 := blk_frozen BK262.out 2
     have hfz11_3 := blk_frozen BK262.out 3
     go_wp2
     go_meet
     case rel => exact ⟨_, (true), (by first | rfl | (simp; done) | (simp [*]; done) | (simp [wrap64]; done)), H', ⟨by first | omega | exact Nat.le_refl _⟩, ⟨by (with_reducible repeat (first | refine blk_drewN ?_ _ | refine blk_drew ?_ | refine blk_alloc ?_ _)); exact BK262.out⟩, ⟨bl⟩⟩
    ·rw [if_neg c10] at H
     have c10b0 : decide (60 < (a0_3.size : Int)) = false := decide_eq_false c10
     have c10b1 : decide (60 < a0_3.size) = false := decide_eq_false (by omega)
     clear c10
     have H' := Aside0.mk H
     clear H
     have hcz12_0 : w7.cell? ⟨gb262, 0, none⟩ = some (.int .i64 a0_0) := (blk_cell BK262.out 0).trans rfl
     have hcz12_1 : w7.cell? ⟨gb262, 1, none⟩ = some (.bool a0_1) := (blk_cell BK262.out 1).trans rfl
     have hcz12_2 : w7.cell? ⟨gb262, 2, none⟩ = some (.string a0_2) := (blk_cell BK262.out 2).trans rfl
     have hcz12_3 : w7.cell? ⟨gb262, 3, none⟩ = some (.string a0_3) := (blk_cell BK262.out 3).trans rfl
     have hfz12_0 := blk_frozen BK262.out 0
     have hfz12_1 := blk_frozen BK262.out 1
     have hfz12_2 := blk_frozen BK262.out 2
     have hfz12_3 := blk_frozen BK262.out 3
     go_wp2
     go_meet
     case rel => exact ⟨_, (decide ((a1.size : Int) > 150)), (by first | rfl | (simp; done) | (simp [*]; done) | (simp [wrap64]; done)), H', ⟨by first | omega | exact Nat.le_refl _⟩, ⟨by (with_reducible repeat (first | refine blk_drewN ?_ _ | refine blk_drew ?_ | refine blk_alloc ?_ _)); exact BK262.out⟩, ⟨bl⟩⟩
  case rest =>
   clear HC5
   try clear c1; try clear c2; try clear p2; try clear c4; try clear c8; try clear c8b0; try clear c8b1; try clear c10; try clear c10b0; try clear c10b1; try clear hcz11_0; try clear hcz11_1; try clear hcz11_2; try clear hcz11_3; try clear hcz12_0; try clear hcz12_1; try clear hcz12_2; try clear hcz12_3; try clear hcz9_0; try clear hcz9_1; try clear hcz9_2; try clear hcz9_3; try clear hfz11_0; try clear hfz11_1; try clear hfz11_2; try clear hfz11_3; try clear hfz12_0; try clear hfz12_1; try clear hfz12_2; try clear hfz12_3; try clear hfz9_0; try clear hfz9_1; try clear hfz9_2; try clear hfz9_3
   obtain ⟨kq, x25_4, rfl, HA, HJ4, BK262, HB⟩ := hcut
   cases kq with
   | zero => exact absurd HA.out (by simp [targumlaw5_DecBack.j0])
   | succ kj4 =>
    have H := HA.out
    clear HA
    simp only [targumlaw5_DecBack.j0] at H
    by_cases c13 : x25_4 = true
    ·subst c13
     have H1 : (some true) = some r := by rw [if_pos rfl] at H; exact H
     clear H
     have H := H1
     clear H1
     obtain rfl := Option.some.inj H
     go_wp2
     go_ret
     exact ⟨by first | rfl | (simp [errW_none, errW_some] <;> rfl) | (simp [*, errW_none, errW_some] <;> rfl), bl⟩
    ·replace c13 := Bool.eq_false_iff.mpr c13
     subst c13
     have H1 : ((dec_Print.f kj4 a0_0 a0_1 a0_2 a0_3).bind fun t264 => ((dec_Parse.f kj4 t264).bind fun bt265 => ((dec_Good.f kj4 a0_0 a0_1 a0_2 a0_3).bind fun t271 => (if (t271 != bt265.2.2.2.2) = true then (targumlaw5_DecBack.j1 kj4 a1 true) else (if bt265.2.2.2.2 = true then (targumlaw5_DecBack.j1 kj4 a1 (!(bt265.1 == a0_0) || (!(bt265.2.1 == a0_1) || (!(bt265.2.2.1.toList == a0_2.toList) || (!(bt265.2.2.2.1.toList == a0_3.toList)))))) else (targumlaw5_DecBack.j1 kj4 a1 false)))))) = some r := by rw [if_neg (show ¬ (false = true) by decide)] at H; exact H
     clear H
     have H := H1
     clear H1
     replace H := Option.bind_eq_some_iff.mp H
     obtain ⟨t264, A140, H⟩ := H
     replace H : ((dec_Parse.f kj4 t264).bind fun bt265 => ((dec_Good.f kj4 a0_0 a0_1 a0_2 a0_3).bind fun t271 => (if (t271 != bt265.2.2.2.2) = true then (targumlaw5_DecBack.j1 kj4 a1 true) else (if bt265.2.2.2.2 = true then (targumlaw5_DecBack.j1 kj4 a1 (!(bt265.1 == a0_0) || (!(bt265.2.1 == a0_1) || (!(bt265.2.2.1.toList == a0_2.toList) || (!(bt265.2.2.2.1.toList == a0_3.toList)))))) else (targumlaw5_DecBack.j1 kj4 a1 false))))) = some r := H
     have A14 := Aside0.mk A140
     clear A140
     replace H := Option.bind_eq_some_iff.mp H
     obtain ⟨⟨t265, t266, t267, t268, t269⟩, A150, H⟩ := H
     replace H : ((dec_Good.f kj4 a0_0 a0_1 a0_2 a0_3).bind fun t271 => (if (t271 != t269) = true then (targumlaw5_DecBack.j1 kj4 a1 true) else (if t269 = true then (targumlaw5_DecBack.j1 kj4 a1 (!(t265 == a0_0) || (!(t266 == a0_1) || (!(t267.toList == a0_2.toList) || (!(t268.toList == a0_3.toList)))))) else (targumlaw5_DecBack.j1 kj4 a1 false)))) = some r := H
     have A15 := Aside0.mk A150
     clear A150
     have HC16 := Aside0.mk H
     clear H
     have hcz17_0 : wc.cell? ⟨gb262, 0, none⟩ = some (.int .i64 a0_0) := (blk_cell BK262.out 0).trans rfl
     have hcz17_1 : wc.cell? ⟨gb262, 1, none⟩ = some (.bool a0_1) := (blk_cell BK262.out 1).trans rfl
     have hcz17_2 : wc.cell? ⟨gb262, 2, none⟩ = some (.string a0_2) := (blk_cell BK262.out 2).trans rfl
     have hcz17_3 : wc.cell? ⟨gb262, 3, none⟩ = some (.string a0_3) := (blk_cell BK262.out 3).trans rfl
     have hfz17_0 := blk_frozen BK262.out 0
     have hfz17_1 := blk_frozen BK262.out 1
     have hfz17_2 := blk_frozen BK262.out 2
     have hfz17_3 := blk_frozen BK262.out 3
     go_upto_region 6 with (first | ((with_reducible refine gate_callee (f := 35) rfl ?_); refine goesL_ (some 28) rfl rfl Tryd.func35 (by kernel_rfl) rfl #[.agg #[.int .i64 a0_0, .bool a0_1, .string a0_2, .string a0_3]] rfl (by (try simp only [List.map_toArray, List.map_cons, List.map_nil]); first | done | rfl | (simp only [List.length_drop, List.length_take]; rfl)) ?_; (with_reducible refine (dec_Print.calls kj4 a0_0 a0_1 a0_2 a0_3 t264 _ A14.out).mono ?_); rintro e w18 ⟨rfl, hb⟩; refine ⟨_, rfl, ?_⟩; have n0_ := Aside0.mk (blk_below (g := gb262) (o := .cells #[.int .i64 a0_0, .bool a0_1, .string a0_2, .string a0_3] 40 (0, 0)) bk hb); have n1_ := Aside0.mk (below_step bl hb); clear BK262; clear HB; have BK262 := n0_; have HB := n1_; clear n0_ n1_; (try clear hb); (try clear hb2); (try clear hk); (try clear hi)) | ((with_reducible refine gate_callee (f := 31) rfl ?_); refine goesL_ (some 29) rfl rfl Tryd.func31 (by kernel_rfl) rfl #[.string t264] rfl (by (try simp only [List.map_toArray, List.map_cons, List.map_nil]); first | done | rfl | (simp only [List.length_drop, List.length_take]; rfl)) ?_; (with_reducible refine (dec_Parse.calls kj4 t264 t265 t266 t267 t268 t269 _ ?side1 A15.out).mono ?_); (case side1 => exact Go.Proofs.YtddaggnomcoejaaDoor.PDT.Tabs_below HG.out bl); rintro e w19 ⟨rfl, hb⟩; refine ⟨_, rfl, ?_⟩; have n0_ := Aside0.mk (blk_below (g := gb262) (o := .cells #[.int .i64 a0_0, .bool a0_1, .string a0_2, .string a0_3] 40 (0, 0)) bk hb); have n1_ := Aside0.mk (below_step bl hb); clear BK262; clear HB; have BK262 := n0_; have HB := n1_; clear n0_ n1_; (try clear hb); (try clear hb2); (try clear hk); (try clear hi)) | ((with_reducible refine gate_dst (N := 5) rfl ?_); (try (refine gate_guard (by rfl) ?_; dsimp only)); refine box_event ?hg (N := 5) ?hd (cs := #[.int .i64 0, .bool false, .string (⟨#[]⟩ : ByteArray), .string (⟨#[]⟩ : ByteArray)]) (t := 40) ?hr ?_; (case hd => rfl); (case hg => rfl); (case hr => first | (go_simp; done) | (go_simp; rfl)); intro gb270 hg w20 hbox hb; have n0_ := Aside0.mk (blk_below (g := gb262) (o := .cells #[.int .i64 a0_0, .bool a0_1, .string a0_2, .string a0_3] 40 (0, 0)) bk hb); have n1_ := Aside0.mk (below_step bl hb); have n2_ := Aside0.mk (hbox); have n3_ := Aside0.mk ((by rw [hg]; exact (below_size bl) : w.heap.size ≤ gb270)); have n4_ := Aside0.mk ((by rw [hg]; exact (below_size bl) : w.heap.size ≤ gb270)); have n5_ := Aside0.mk ((by rw [hg]; exact Nat.ne_of_lt (blk_lt (g := gb262) (o := .cells #[.int .i64 a0_0, .bool a0_1, .string a0_2, .string a0_3] 40 (0, 0)) bk) : gb262 ≠ gb270)); have n6_ := Aside0.mk ((by rw [hg]; exact Nat.ne_of_gt (blk_lt (g := gb262) (o := .cells #[.int .i64 a0_0, .bool a0_1, .string a0_2, .string a0_3] 40 (0, 0)) bk) : gb270 ≠ gb262)); clear BK262; clear HB; have BK262 := n0_; have HB := n1_; have BK270 := n2_; have GW270 := n3_; have GE270 := n4_; have NB262_270 := n5_; have NB270_262 := n6_; clear n0_ n1_ n2_ n3_ n4_ n5_ n6_; clear hb hbox hg; have hnb21 := NB270_262.out; have hnc21 := NB262_270.out; have hcz22_0 : w20.cell? ⟨gb270, 0, none⟩ = some (.int .i64 0) := (blk_cell BK270.out 0).trans rfl; have hcz22_1 : w20.cell? ⟨gb270, 1, none⟩ = some (.bool false) := (blk_cell BK270.out 1).trans rfl; have hcz22_2 : w20.cell? ⟨gb270, 2, none⟩ = some (.string (⟨#[]⟩ : ByteArray)) := (blk_cell BK270.out 2).trans rfl; have hcz22_3 : w20.cell? ⟨gb270, 3, none⟩ = some (.string (⟨#[]⟩ : ByteArray)) := (blk_cell BK270.out 3).trans rfl; have hfz22_0 := blk_frozen BK270.out 0; have hfz22_1 := blk_frozen BK270.out 1; have hfz22_2 := blk_frozen BK270.out 2; have hfz22_3 := blk_frozen BK270.out 3))
     (try simp only [Act.put, List.setIfInBounds_toArray, List.set_cons_zero, List.set_cons_succ])
     go_cut [43] (fun v43 wc => ∃ (kq : Nat) (x43_15 : Bool), v43 = .bool x43_15 ∧ Aside0 (targumlaw5_DecBack.j1 kq a1 x43_15 = some r) ∧ Aside0 (kq ≤ kj4) ∧ Aside0 (wc.heap[gb262]? = some (.cells #[.int .i64 a0_0, .bool a0_1, .string a0_2, .string a0_3] 40 (0, 0))) ∧ Aside0 (wc.heap[gb270]? = some (.cells #[.int .i64 t265, .bool t266, .string t267, .string t268] 40 (0, 0))) ∧ Aside0 (Below w.heap.size w wc))
     case first =>
      have H := HC16.out
      clear HC16
      replace H := Option.bind_eq_some_iff.mp H
      obtain ⟨t271, A230, H⟩ := H
      replace H : (if (t271 != t269) = true then (targumlaw5_DecBack.j1 kj4 a1 true) else (if t269 = true then (targumlaw5_DecBack.j1 kj4 a1 (!(t265 == a0_0) || (!(t266 == a0_1) || (!(t267.toList == a0_2.toList) || (!(t268.toList == a0_3.toList)))))) else (targumlaw5_DecBack.j1 kj4 a1 false))) = some r := H
      have A23 := Aside0.mk A230
      clear A230
      by_cases c24 : (t271 != t269) = true
      ·rw [if_pos c24] at H
       have c24b0 : (t271 != t269) = true := c24
       (try (have c24b1 : decide (t271 = t269) = false := by simpa using c24))
       (try (have c24b2 : (t271 == t269) = false := by simpa using c24))
       (try (have c24b3 : ¬ (t271 = t269) := by simpa using c24))
       clear c24
       (first | rw [c24b0] | (simp only [i64_w, i32_w]; rw [c24b0]) | skip)
       have H' := Aside0.mk H
       clear H
       have hnb25 := NB262_270.out
       have hnc25 := NB270_262.out
       have hcz26_0 : w20.cell? ⟨gb262, 0, none⟩ = some (.int .i64 a0_0) := (blk_cell BK262.out 0).trans rfl
       have hcz26_1 : w20.cell? ⟨gb262, 1, none⟩ = some (.bool a0_1) := (blk_cell BK262.out 1).trans rfl
       have hcz26_2 : w20.cell? ⟨gb262, 2, none⟩ = some (.string a0_2) := (blk_cell BK262.out 2).trans rfl
       have hcz26_3 : w20.cell? ⟨gb262, 3, none⟩ = some (.string a0_3) := (blk_cell BK262.out 3).trans rfl
       have hfz26_0 := blk_frozen BK262.out 0
       have hfz26_1 := blk_frozen BK262.out 1
       have hfz26_2 := blk_frozen BK262.out 2
       have hfz26_3 := blk_frozen BK262.out 3
       go_wp2_with (first | ((with_reducible refine gate_callee (f := 33) rfl ?_); refine goesL_ (some 33) rfl rfl Tryd.func33 (by kernel_rfl) rfl #[.agg #[.int .i64 a0_0, .bool a0_1, .string a0_2, .string a0_3]] rfl (by (try simp only [List.map_toArray, List.map_cons, List.map_nil]); first | done | rfl | (simp only [List.length_drop, List.length_take]; rfl)) ?_; (with_reducible refine (dec_Good.calls kj4 a0_0 a0_1 a0_2 a0_3 t271 _ A23.out).mono ?_); rintro e w27 ⟨rfl, hb⟩; refine ⟨_, rfl, ?_⟩; have n0_ := Aside0.mk (blk_below (g := gb262) (o := .cells #[.int .i64 a0_0, .bool a0_1, .string a0_2, .string a0_3] 40 (0, 0)) bk hb); have n1_ := Aside0.mk (blk_below (g := gb270) (o := .cells #[.int .i64 t265, .bool t266, .string t267, .string t268] 40 (0, 0)) bk hb); have n2_ := Aside0.mk (below_step bl hb); clear BK262; clear BK270; clear HB; have BK262 := n0_; have BK270 := n1_; have HB := n2_; clear n0_ n1_ n2_; (try clear hb); (try clear hb2); (try clear hk); (try clear hi)))
       go_meet
       case rel => exact ⟨_, (true), (by first | rfl | (simp; done) | (simp [*]; done) | (simp [wrap64]; done)), H', ⟨by have := HJ4.out; first | omega | exact Nat.le_refl _⟩, ⟨by (with_reducible repeat (first | refine blk_drewN ?_ _ | refine blk_drew ?_ | refine blk_alloc ?_ _)); exact BK262.out⟩, ⟨by (with_reducible repeat (first | refine blk_drewN ?_ _ | refine blk_drew ?_ | refine blk_alloc ?_ _)); exact BK270.out⟩, ⟨bl⟩⟩
      ·rw [if_neg c24] at H
       have c24b0 : (t271 != t269) = false := by simpa using c24
       (try (have c24b1 : decide (t271 = t269) = true := by simpa using c24))
       (try (have c24b2 : (t271 == t269) = true := by simpa using c24))
       clear c24
       (first | rw [c24b0] | (simp only [i64_w, i32_w]; rw [c24b0]) | skip)
       by_cases c28 : t269 = true
       ·subst c28
        have H1 : (targumlaw5_DecBack.j1 kj4 a1 (!(t265 == a0_0) || (!(t266 == a0_1) || (!(t267.toList == a0_2.toList) || (!(t268.toList == a0_3.toList)))))) = some r := by rw [if_pos rfl] at H; exact H
        clear H
        have H := H1
        clear H1
        have H' := Aside0.mk H
        clear H
        have hnb29 := NB262_270.out
        have hnc29 := NB270_262.out
        have hcz30_0 : w20.cell? ⟨gb262, 0, none⟩ = some (.int .i64 a0_0) := (blk_cell BK262.out 0).trans rfl
        have hcz30_1 : w20.cell? ⟨gb262, 1, none⟩ = some (.bool a0_1) := (blk_cell BK262.out 1).trans rfl
        have hcz30_2 : w20.cell? ⟨gb262, 2, none⟩ = some (.string a0_2) := (blk_cell BK262.out 2).trans rfl
        have hcz30_3 : w20.cell? ⟨gb262, 3, none⟩ = some (.string a0_3) := (blk_cell BK262.out 3).trans rfl
        have hfz30_0 := blk_frozen BK262.out 0
        have hfz30_1 := blk_frozen BK262.out 1
        have hfz30_2 := blk_frozen BK262.out 2
        have hfz30_3 := blk_frozen BK262.out 3
        go_wp2_with (first | ((with_reducible refine gate_callee (f := 33) rfl ?_); refine goesL_ (some 33) rfl rfl Tryd.func33 (by kernel_rfl) rfl #[.agg #[.int .i64 a0_0, .bool a0_1, .string a0_2, .string a0_3]] rfl (by (try simp only [List.map_toArray, List.map_cons, List.map_nil]); first | done | rfl | (simp only [List.length_drop, List.length_take]; rfl)) ?_; (with_reducible refine (dec_Good.calls kj4 a0_0 a0_1 a0_2 a0_3 t271 _ A23.out).mono ?_); rintro e w31 ⟨rfl, hb⟩; refine ⟨_, rfl, ?_⟩; have n0_ := Aside0.mk (blk_below (g := gb262) (o := .cells #[.int .i64 a0_0, .bool a0_1, .string a0_2, .string a0_3] 40 (0, 0)) bk hb); have n1_ := Aside0.mk (blk_below (g := gb270) (o := .cells #[.int .i64 t265, .bool t266, .string t267, .string t268] 40 (0, 0)) bk hb); have n2_ := Aside0.mk (below_step bl hb); clear BK262; clear BK270; clear HB; have BK262 := n0_; have BK270 := n1_; have HB := n2_; clear n0_ n1_ n2_; (try clear hb); (try clear hb2); (try clear hk); (try clear hi); have hcz32_0 : w31.cell? ⟨gb270, 0, none⟩ = some (.int .i64 t265) := (blk_cell BK270.out 0).trans rfl; have hcz32_1 : w31.cell? ⟨gb270, 1, none⟩ = some (.bool t266) := (blk_cell BK270.out 1).trans rfl; have hcz32_2 : w31.cell? ⟨gb270, 2, none⟩ = some (.string t267) := (blk_cell BK270.out 2).trans rfl; have hcz32_3 : w31.cell? ⟨gb270, 3, none⟩ = some (.string t268) := (blk_cell BK270.out 3).trans rfl; have hfz32_0 := blk_frozen BK270.out 0; have hfz32_1 := blk_frozen BK270.out 1; have hfz32_2 := blk_frozen BK270.out 2; have hfz32_3 := blk_frozen BK270.out 3; have hcz33_0 : w31.cell? ⟨gb262, 0, none⟩ = some (.int .i64 a0_0) := (blk_cell BK262.out 0).trans rfl; have hcz33_1 : w31.cell? ⟨gb262, 1, none⟩ = some (.bool a0_1) := (blk_cell BK262.out 1).trans rfl; have hcz33_2 : w31.cell? ⟨gb262, 2, none⟩ = some (.string a0_2) := (blk_cell BK262.out 2).trans rfl; have hcz33_3 : w31.cell? ⟨gb262, 3, none⟩ = some (.string a0_3) := (blk_cell BK262.out 3).trans rfl; have hfz33_0 := blk_frozen BK262.out 0; have hfz33_1 := blk_frozen BK262.out 1; have hfz33_2 := blk_frozen BK262.out 2; have hfz33_3 := blk_frozen BK262.out 3))
        go_meet
        case rel => exact ⟨_, ((!(t265 == a0_0) || (!(t266 == a0_1) || (!(t267.toList == a0_2.toList) || (!(t268.toList == a0_3.toList)))))), (by first | rfl | (simp; done) | (simp [*]; done) | (simp [wrap64]; done)), H', ⟨by have := HJ4.out; first | omega | exact Nat.le_refl _⟩, ⟨by (with_reducible repeat (first | refine blk_drewN ?_ _ | refine blk_drew ?_ | refine blk_alloc ?_ _)); exact BK262.out⟩, ⟨by (with_reducible repeat (first | refine blk_drewN ?_ _ | refine blk_drew ?_ | refine blk_alloc ?_ _)); exact BK270.out⟩, ⟨bl⟩⟩
       ·replace c28 := Bool.eq_false_iff.mpr c28
        subst c28
        have H1 : (targumlaw5_DecBack.j1 kj4 a1 false) = some r := by rw [if_neg (show ¬ (false = true) by decide)] at H; exact H
        clear H
        have H := H1
        clear H1
        have H' := Aside0.mk H
        clear H
        have hnb34 := NB262_270.out
        have hnc34 := NB270_262.out
        have hcz35_0 : w20.cell? ⟨gb262, 0, none⟩ = some (.int .i64 a0_0) := (blk_cell BK262.out 0).trans rfl
        have hcz35_1 : w20.cell? ⟨gb262, 1, none⟩ = some (.bool a0_1) := (blk_cell BK262.out 1).trans rfl
        have hcz35_2 : w20.cell? ⟨gb262, 2, none⟩ = some (.string a0_2) := (blk_cell BK262.out 2).trans rfl
        have hcz35_3 : w20.cell? ⟨gb262, 3, none⟩ = some (.string a0_3) := (blk_cell BK262.out 3).trans rfl
        have hfz35_0 := blk_frozen BK262.out 0
        have hfz35_1 := blk_frozen BK262.out 1
        have hfz35_2 := blk_frozen BK262.out 2
        have hfz35_3 := blk_frozen BK262.out 3
        go_wp2_with (first | ((with_reducible refine gate_callee (f := 33) rfl ?_); refine goesL_ (some 33) rfl rfl Tryd.func33 (by kernel_rfl) rfl #[.agg #[.int .i64 a0_0, .bool a0_1, .string a0_2, .string a0_3]] rfl (by (try simp only [List.map_toArray, List.map_cons, List.map_nil]); first | done | rfl | (simp only [List.length_drop, List.length_take]; rfl)) ?_; (with_reducible refine (dec_Good.calls kj4 a0_0 a0_1 a0_2 a0_3 t271 _ A23.out).mono ?_); rintro e w36 ⟨rfl, hb⟩; refine ⟨_, rfl, ?_⟩; have n0_ := Aside0.mk (blk_below (g := gb262) (o := .cells #[.int .i64 a0_0, .bool a0_1, .string a0_2, .string a0_3] 40 (0, 0)) bk hb); have n1_ := Aside0.mk (blk_below (g := gb270) (o := .cells #[.int .i64 t265, .bool t266, .string t267, .string t268] 40 (0, 0)) bk hb); have n2_ := Aside0.mk (below_step bl hb); clear BK262; clear BK270; clear HB; have BK262 := n0_; have BK270 := n1_; have HB := n2_; clear n0_ n1_ n2_; (try clear hb); (try clear hb2); (try clear hk); (try clear hi)))
        go_meet
        case rel => exact ⟨_, (false), (by first | rfl | (simp; done) | (simp [*]; done) | (simp [wrap64]; done)), H', ⟨by have := HJ4.out; first | omega | exact Nat.le_refl _⟩, ⟨by (with_reducible repeat (first | refine blk_drewN ?_ _ | refine blk_drew ?_ | refine blk_alloc ?_ _)); exact BK262.out⟩, ⟨by (with_reducible repeat (first | refine blk_drewN ?_ _ | refine blk_drew ?_ | refine blk_alloc ?_ _)); exact BK270.out⟩, ⟨bl⟩⟩
     case rest =>
      clear HC16
      try clear c1; try clear c2; try clear p2; try clear c3; try clear c4; try clear c8; try clear c8b0; try clear c8b1; try clear c10; try clear c10b0; try clear c10b1; try clear c13; try clear c21; try clear c24; try clear c24b0; try clear c24b1; try clear c24b2; try clear c25; try clear c28; try clear c29; try clear c31; try clear c33; try clear c34; try clear c35; try clear hcz11_0; try clear hcz11_1; try clear hcz11_2; try clear hcz11_3; try clear hcz12_0; try clear hcz12_1; try clear hcz12_2; try clear hcz12_3; try clear hcz17_0; try clear hcz17_1; try clear hcz17_2; try clear hcz17_3; try clear hcz22_0; try clear hcz22_1; try clear hcz22_2; try clear hcz22_3; try clear hcz26_0; try clear hcz26_1; try clear hcz26_2; try clear hcz26_3; try clear hcz30_0; try clear hcz30_1; try clear hcz30_2; try clear hcz30_3; try clear hcz32_0; try clear hcz32_1; try clear hcz32_2; try clear hcz32_3; try clear hcz33_0; try clear hcz33_1; try clear hcz33_2; try clear hcz33_3; try clear hcz35_0; try clear hcz35_1; try clear hcz35_2; try clear hcz35_3; try clear hcz9_0; try clear hcz9_1; try clear hcz9_2; try clear hcz9_3; try clear hfz11_0; try clear hfz11_1; try clear hfz11_2; try clear hfz11_3; try clear hfz12_0; try clear hfz12_1; try clear hfz12_2; try clear hfz12_3; try clear hfz17_0; try clear hfz17_1; try clear hfz17_2; try clear hfz17_3; try clear hfz22_0; try clear hfz22_1; try clear hfz22_2; try clear hfz22_3; try clear hfz26_0; try clear hfz26_1; try clear hfz26_2; try clear hfz26_3; try clear hfz30_0; try clear hfz30_1; try clear hfz30_2; try clear hfz30_3; try clear hfz32_0; try clear hfz32_1; try clear hfz32_2; try clear hfz32_3; try clear hfz33_0; try clear hfz33_1; try clear hfz33_2; try clear hfz33_3; try clear hfz35_0; try clear hfz35_1; try clear hfz35_2; try clear hfz35_3; try clear hfz9_0; try clear hfz9_1; try clear hfz9_2; try clear hfz9_3; try clear p2
      obtain ⟨kq, x43_15, rfl, HA, HJ15, BK262, BK270, HB⟩ := hcut
      cases kq with
      | zero => exact absurd HA.out (by simp [targumlaw5_DecBack.j1])
      | succ kj15 =>
       have H := HA.out
       clear HA
       simp only [targumlaw5_DecBack.j1] at H
       by_cases c37 : x43_15 = true
       ·subst c37
        have H1 : (some false) = some r := by rw [if_pos rfl] at H; exact H
        clear H
        have H := H1
        clear H1
        obtain rfl := Option.some.inj H
        go_wp2
        go_ret
        exact ⟨by first | rfl | (simp [errW_none, errW_some] <;> rfl) | (simp [*, errW_none, errW_some] <;> rfl), bl⟩
       ·replace c37 := Bool.eq_false_iff.mpr c37
        subst c37
        have H1 : ((dec_Parse.f kj15 a1).bind fun bt272 => (if bt272.2.2.2.2 = true then ((dec_Good.f kj15 bt272.1 bt272.2.1 bt272.2.2.1 bt272.2.2.2.1).bind fun t278 => (if t278 = true then ((dec_Print.f kj15 bt272.1 bt272.2.1 bt272.2.2.1 bt272.2.2.2.1).bind fun t279 => (some (t279.toList == a1.toList))) else (some false))) else (if (bt272.1 == 0 && (!bt272.2.1 && (bt272.2.2.1.toList == ([] : List UInt8) && (bt272.2.2.2.1.toList == ([] : List UInt8))))) = true then (some true) else (some false)))) = some r := by rw [if_neg (show ¬ (false = true) by decide)] at H; exact H
        clear H
        have H := H1
        clear H1
        replace H := Option.bind_eq_some_iff.mp H
        obtain ⟨⟨t272, t273, t274, t275, t276⟩, A380, H⟩ := H
        replace H : (if t276 = true then ((dec_Good.f kj15 t272 t273 t274 t275).bind fun t278 => (if t278 = true then ((dec_Print.f kj15 t272 t273 t274 t275).bind fun t279 => (some (t279.toList == a1.toList))) else (some false))) else (if (t272 == 0 && (!t273 && (t274.toList == ([] : List UInt8) && (t275.toList == ([] : List UInt8))))) = true then (some true) else (some false))) = some r := H
        have A38 := Aside0.mk A380
        clear A380
        refine Classical.byCases (p := (t276 = true)) (fun c39 => ?x1) (fun c39 => ?y1)
        case' x1 =>
         subst c39
         have H1 : ((dec_Good.f kj15 t272 t273 t274 t275).bind fun t278 => (if t278 = true then ((dec_Print.f kj15 t272 t273 t274 t275).bind fun t279 => (some (t279.toList == a1.toList))) else (some false))) = some r := by rw [if_pos rfl] at H; exact H
         clear H
         have H := H1
         clear H1
         replace H := Option.bind_eq_some_iff.mp H
         obtain ⟨t278, A400, H⟩ := H
         replace H : (if t278 = true then ((dec_Print.f kj15 t272 t273 t274 t275).bind fun t279 => (some (t279.toList == a1.toList))) else (some false)) = some r := H
         have A40 := Aside0.mk A400
         clear A400
         refine Classical.byCases (p := (t278 = true)) (fun c41 => ?x2) (fun c41 => ?y2)
         case' x2 =>
          subst c41
          have H1 : ((dec_Print.f kj15 t272 t273 t274 t275).bind fun t279 => (some (t279.toList == a1.toList))) = some r := by rw [if_pos rfl] at H; exact H
          clear H
          have H := H1
          clear H1
          replace H := Option.bind_eq_some_iff.mp H
          obtain ⟨t279, A420, H⟩ := H
          replace H : (some (t279.toList == a1.toList)) = some r := H
          have A42 := Aside0.mk A420
          clear A420
          obtain rfl := Option.some.inj H
          skip
         case' y2 =>
          replace c41 := Bool.eq_false_iff.mpr c41
          subst c41
          have H1 : (some false) = some r := by rw [if_neg (show ¬ (false = true) by decide)] at H; exact H
          clear H
          have H := H1
          clear H1
          obtain rfl := Option.some.inj H
          skip
        case' y1 =>
         replace c39 := Bool.eq_false_iff.mpr c39
         subst c39
         have H1 : (if (t272 == 0 && (!t273 && (t274.toList == ([] : List UInt8) && (t275.toList == ([] : List UInt8))))) = true then (some true) else (some false)) = some r := by rw [if_neg (show ¬ (false = true) by decide)] at H; exact H
         clear H
         have H := H1
         clear H1
         refine Classical.byCases (p := ((t272 == 0 && (!t273 && (t274.toList == ([] : List UInt8) && (t275.toList == ([] : List UInt8))))) = true)) (fun c57 => ?x3) (fun c57 => ?y3)
         case' x3 =>
          rw [if_pos c57] at H
          have c57b0 : (t272 == 0 && (!t273 && (t274.toList == ([] : List UInt8) && (t275.toList == ([] : List UInt8))))) = true := c57
          (try (have c57b4 : (t272 == 0 && (!t273 && (t274.toList.isEmpty && (t275.toList.isEmpty)))) = true := by simpa using c57b0))
          (try (have c57b1 : decide (t272 = 0 && (!t273 && (t274.toList == ([] : List UInt8) && (t275.toList == ([] : List UInt8))))) = true := by simpa using c57))
          (try (have c57b2 : (t272 == 0 && (!t273 && (t274.toList == ([] : List UInt8) && (t275.toList == ([] : List UInt8))))) = true := by simpa using c57))
          clear c57
          obtain rfl := Option.some.inj H
          skip
         case' y3 =>
          rw [if_neg c57] at H
          have c57b0 : (t272 == 0 && (!t273 && (t274.toList == ([] : List UInt8) && (t275.toList == ([] : List UInt8))))) = false := by simpa using c57
          (try (have c57b4 : (t272 == 0 && (!t273 && (t274.toList.isEmpty && (t275.toList.isEmpty)))) = false := by simpa using c57b0))
          (try (have c57b1 : decide (t272 = 0 && (!t273 && (t274.toList == ([] : List UInt8) && (t275.toList == ([] : List UInt8))))) = false := by simpa using c57))
          (try (have c57b2 : (t272 == 0 && (!t273 && (t274.toList == ([] : List UInt8) && (t275.toList == ([] : List UInt8))))) = false := by simpa using c57))
          (try (have c57b3 : ¬ (t272 = 0 && (!t273 && (t274.toList == ([] : List UInt8) && (t275.toList == ([] : List UInt8))))) := by simpa using c57))
          clear c57
          obtain rfl := Option.some.inj H
          skip
        case x2 | y2 | x3 | y3 =>
         as_aux_lemma =>
          go_wp2_with (first | ((with_reducible refine gate_callee (f := 31) rfl ?_); refine goesL_ (some 46) rfl rfl Tryd.func31 (by kernel_rfl) rfl #[.string a1] rfl (by (try simp only [List.map_toArray, List.map_cons, List.map_nil]); first | done | rfl | (simp only [List.length_drop, List.length_take]; rfl)) ?_; (with_reducible refine (dec_Parse.calls _ _ _ _ _ _ _ _ ?side1 A38.out).mono ?_); (case side1 => exact Go.Proofs.YtddaggnomcoejaaDoor.PDT.Tabs_below HG.out bl); rintro e w43 ⟨rfl, hb⟩; refine ⟨_, rfl, ?_⟩; have n0_ := Aside0.mk (blk_below (g := gb262) (o := .cells #[.int .i64 a0_0, .bool a0_1, .string a0_2, .string a0_3] 40 (0, 0)) bk hb); have n1_ := Aside0.mk (blk_below (g := gb270) (o := .cells #[.int .i64 t265, .bool t266, .string t267, .string t268] 40 (0, 0)) bk hb); have n2_ := Aside0.mk (below_step bl hb); clear BK262; clear BK270; clear HB; have BK262 := n0_; have BK270 := n1_; have HB := n2_; clear n0_ n1_ n2_; (try clear hb); (try clear hb2); (try clear hk); (try clear hi)) | ((with_reducible refine gate_dst (N := 7) rfl ?_); (try (refine gate_guard (by rfl) ?_; dsimp only)); refine box_event ?hg (N := 7) ?hd (cs := #[.int .i64 0, .bool false, .string (⟨#[]⟩ : ByteArray), .string (⟨#[]⟩ : ByteArray)]) (t := 40) ?hr ?_; (case hd => rfl); (case hg => rfl); (case hr => first | (go_simp; done) | (go_simp; rfl)); intro gb277 hg w44 hbox hb; have n0_ := Aside0.mk (blk_below (g := gb262) (o := .cells #[.int .i64 a0_0, .bool a0_1, .string a0_2, .string a0_3] 40 (0, 0)) bk hb); have n1_ := Aside0.mk (blk_below (g := gb270) (o := .cells #[.int .i64 t265, .bool t266, .string t267, .string t268] 40 (0, 0)) bk hb); have n2_ := Aside0.mk (below_step bl hb); have n3_ := Aside0.mk (hbox); have n4_ := Aside0.mk ((by rw [hg]; exact (below_size bl) : w.heap.size ≤ gb277)); have n5_ := Aside0.mk ((by rw [hg]; exact (below_size bl) : w.heap.size ≤ gb277)); have n6_ := Aside0.mk ((by rw [hg]; exact Nat.ne_of_lt (blk_lt (g := gb262) (o := .cells #[.int .i64 a0_0, .bool a0_1, .string a0_2, .string a0_3] 40 (0, 0)) bk) : gb262 ≠ gb277)); have n7_ := Aside0.mk ((by rw [hg]; exact Nat.ne_of_gt (blk_lt (g := gb262) (o := .cells #[.int .i64 a0_0, .bool a0_1, .string a0_2, .string a0_3] 40 (0, 0)) bk) : gb277 ≠ gb262)); have n8_ := Aside0.mk ((by rw [hg]; exact Nat.ne_of_lt (blk_lt (g := gb270) (o := .cells #[.int .i64 t265, .bool t266, .string t267, .string t268] 40 (0, 0)) bk) : gb270 ≠ gb277)); have n9_ := Aside0.mk ((by rw [hg]; exact Nat.ne_of_gt (blk_lt (g := gb270) (o := .cells #[.int .i64 t265, .bool t266, .string t267, .string t268] 40 (0, 0)) bk) : gb277 ≠ gb270)); clear BK262; clear BK270; clear HB; have BK262 := n0_; have BK270 := n1_; have HB := n2_; have BK277 := n3_; have GW277 := n4_; have GE277 := n5_; have NB262_277 := n6_; have NB277_262 := n7_; have NB270_277 := n8_; have NB277_270 := n9_; clear n0_ n1_ n2_ n3_ n4_ n5_ n6_ n7_ n8_ n9_; clear hb hbox hg; have hnb45 := NB277_262.out; have hnc45 := NB262_277.out; have hnb46 := NB277_270.out; have hnc46 := NB270_277.out; have hcz47_0 : w44.cell? ⟨gb277, 0, none⟩ = some (.int .i64 0) := (blk_cell BK277.out 0).trans rfl; have hcz47_1 : w44.cell? ⟨gb277, 1, none⟩ = some (.bool false) := (blk_cell BK277.out 1).trans rfl; have hcz47_2 : w44.cell? ⟨gb277, 2, none⟩ = some (.string (⟨#[]⟩ : ByteArray)) := (blk_cell BK277.out 2).trans rfl; have hcz47_3 : w44.cell? ⟨gb277, 3, none⟩ = some (.string (⟨#[]⟩ : ByteArray)) := (blk_cell BK277.out 3).trans rfl; have hfz47_0 := blk_frozen BK277.out 0; have hfz47_1 := blk_frozen BK277.out 1; have hfz47_2 := blk_frozen BK277.out 2; have hfz47_3 := blk_frozen BK277.out 3) | (go_at_call 33; (with_reducible refine (dec_Good.calls _ _ _ _ _ _ _ A40.out).mono ?_); rintro e w48 ⟨rfl, hb⟩; have n0_ := Aside0.mk (blk_below (g := gb262) (o := .cells #[.int .i64 a0_0, .bool a0_1, .string a0_2, .string a0_3] 40 (0, 0)) bk hb); have n1_ := Aside0.mk (blk_below (g := gb270) (o := .cells #[.int .i64 t265, .bool t266, .string t267, .string t268] 40 (0, 0)) bk hb); have n2_ := Aside0.mk (blk_below (g := gb277) (o := .cells #[.int .i64 t272, .bool t273, .string t274, .string t275] 40 (0, 0)) bk hb); have n3_ := Aside0.mk (below_step bl hb); clear BK262; clear BK270; clear BK277; clear HB; have BK262 := n0_; have BK270 := n1_; have BK277 := n2_; have HB := n3_; clear n0_ n1_ n2_ n3_; (try clear hb); (try clear hb2); (try clear hk); (try clear hi); have hcz49_0 : w48.cell? ⟨gb277, 0, none⟩ = some (.int .i64 t272) := (blk_cell BK277.out 0).trans rfl; have hcz49_1 : w48.cell? ⟨gb277, 1, none⟩ = some (.bool t273) := (blk_cell BK277.out 1).trans rfl; have hcz49_2 : w48.cell? ⟨gb277, 2, none⟩ = some (.string t274) := (blk_cell BK277.out 2).trans rfl; have hcz49_3 : w48.cell? ⟨gb277, 3, none⟩ = some (.string t275) := (blk_cell BK277.out 3).trans rfl; have hfz49_0 := blk_frozen BK277.out 0; have hfz49_1 := blk_frozen BK277.out 1; have hfz49_2 := blk_frozen BK277.out 2; have hfz49_3 := blk_frozen BK277.out 3) | (go_at_call 35; (with_reducible refine (dec_Print.calls _ _ _ _ _ _ _ A42.out).mono ?_); rintro e w50 ⟨rfl, hb⟩; have n0_ := Aside0.mk (blk_below (g := gb262) (o := .cells #[.int .i64 a0_0, .bool a0_1, .string a0_2, .string a0_3] 40 (0, 0)) bk hb); have n1_ := Aside0.mk (blk_below (g := gb270) (o := .cells #[.int .i64 t265, .bool t266, .string t267, .string t268] 40 (0, 0)) bk hb); have n2_ := Aside0.mk (blk_below (g := gb277) (o := .cells #[.int .i64 t272, .bool t273, .string t274, .string t275] 40 (0, 0)) bk hb); have n3_ := Aside0.mk (below_step bl hb); clear BK262; clear BK270; clear BK277; clear HB; have BK262 := n0_; have BK270 := n1_; have BK277 := n2_; have HB := n3_; clear n0_ n1_ n2_ n3_; (try clear hb); (try clear hb2); (try clear hk); (try clear hi)))
          go_ret
          exact ⟨by first | rfl | (simp [errW_none, errW_some] <;> rfl) | (simp [*, errW_none, errW_some] <;> rfl), bl⟩
 ·replace c4 := Bool.eq_false_iff.mpr c4
  subst c4
  have H1 : (some false) = some r := by rw [if_neg (show ¬ (false = true) by decide)] at H; exact H
  clear H
  have H := H1
  clear H1
  obtain rfl := Option.some.inj H
  go_enter Tryd.func10, Tryd.ntmps10
  go_wp2_with (first | ((with_reducible refine gate_dst (N := 2) rfl ?_); (try (refine gate_guard (by rfl) ?_; dsimp only)); refine box_event ?hg (N := 2) ?hd (cs := #[.int .i64 a0_0, .bool a0_1, .string a0_2, .string a0_3]) (t := 40) ?hr ?_; (case hd => rfl); (case hg => rfl); (case hr => first | (go_simp; done) | (go_simp; rfl)); intro gb262 hg w68 hbox hb; have n0_ := Aside0.mk (below_step bl hb); have n1_ := Aside0.mk (hbox); have n2_ := Aside0.mk ((by rw [hg]; exact (below_size bl) : w.heap.size ≤ gb262)); have n3_ := Aside0.mk ((by rw [hg]; exact (below_size bl) : w.heap.size ≤ gb262)); clear HB; have HB := n0_; have BK262 := n1_; have GW262 := n2_; have GE262 := n3_; clear n0_ n1_ n2_ n3_; clear hb hbox hg) | ((with_reducible refine gate_callee (f := 28) rfl ?_); refine goesL_ (some 9) rfl rfl Tryd.func28 (by kernel_rfl) rfl #[] rfl (by (try simp only [List.map_toArray, List.map_cons, List.map_nil]); first | done | rfl | (simp only [List.length_drop, List.length_take]; rfl)) ?_; (with_reducible refine (targumlaw5_known.calls k  false _ ?side1 A3.out).mono ?_); (case side1 => exact Go.Proofs.YtddaggnomcoejaaDoor.PDT.Tabs_below HG.out bl); rintro e w69 ⟨rfl, hb⟩; refine ⟨_, rfl, ?_⟩; have n0_ := Aside0.mk (blk_below (g := gb262) (o := .cells #[.int .i64 a0_0, .bool a0_1, .string a0_2, .string a0_3] 40 (0, 0)) bk hb); have n1_ := Aside0.mk (below_step bl hb); clear BK262; clear HB; have BK262 := n0_; have HB := n1_; clear n0_ n1_; (try clear hb); (try clear hb2); (try clear hk); (try clear hi)))
  go_ret
  exact ⟨by first | rfl | (simp [errW_none, errW_some] <;> rfl) | (simp [*, errW_none, errW_some] <;> rfl), bl⟩

/-- The pure statement of targumlaw5_DecBack. -/
def targumlaw5_DecBack.Pure : Prop := ∀ (a0_0 : Int) (a0_1 : Bool) (a0_2 : ByteArray) (a0_3 : ByteArray) (a1 : ByteArray), (Lit.int .i64 a0_0).wf = true → a0_2.size ≤ 140737488351232 → a0_3.size ≤ 140737488351232 → a1.size ≤ 140737488351232 → ∃ k, targumlaw5_DecBack.f k a0_0 a0_1 a0_2 a0_3 a1 = some true

/-! ### targumlaw5_digits: function 37 -/
def targumlaw5_digits.l0 : Nat → ByteArray → List Int → Int → Option (ByteArray)
 | 0, _, _, _ => none
 | k + 1, x0, x3, x4 => if x4 < (x0.size : Int) then (if 0 ≤ x4 then (if x4 < (x3.length : Int) then (targumlaw5_digits.l0 k x0 (x3.set (x4 : Int).toNat ((48 + (Int.tmod (bt x0 x4) 10)) % 256)) (wrap64 (x4 + 1))) else (none)) else (none)) else (some (strOfNums x3))
def targumlaw5_digits.f (k : Nat) (a0 : ByteArray) : Option (ByteArray) := if 0 ≤ (a0.size : Int) then (if ((a0.size : Int) : Int).toNat ≤ 281474976710656 then (targumlaw5_digits.l0 k a0 (List.replicate ((a0.size : Int) : Int).toNat 0) 0) else (none)) else (none)
theorem targumlaw5_digits.mono_l : ∀ k, (∀ y0 y1 y2, LeO (targumlaw5_digits.l0 k y0 y1 y2) (targumlaw5_digits.l0 (k + 1) y0 y1 y2))
 | 0 => fun _ _ _ r h => by simp [targumlaw5_digits.l0] at h
 | k + 1 => by
  have ih0 := targumlaw5_digits.mono_l k
  ·intro y0 y1 y2
   unfold targumlaw5_digits.l0
   repeat' first
   | (with_reducible exact ih0 _ _ _)
   | (with_reducible exact LeO.refl _)
   | (with_reducible exact LeO.none _)
   | (with_reducible refine LeO.ite ?_ ?_)
   | (with_reducible refine LeO.bind ?_ (fun _ => ?_))
   | exact ih0 _ _ _
   | exact LeO.none _
   | refine LeO.ite ?_ ?_
   | refine LeO.bind ?_ (fun _ => ?_)
theorem targumlaw5_digits.mono : ∀ a0 k, LeO (targumlaw5_digits.f k a0) (targumlaw5_digits.f (k + 1) a0) := by
 intro a0 k
 have ih0 := targumlaw5_digits.mono_l k
 unfold targumlaw5_digits.f
 repeat' first
   | (with_reducible exact ih0 _ _ _)
   | (with_reducible exact LeO.refl _)
   | (with_reducible exact LeO.none _)
   | (with_reducible refine LeO.ite ?_ ?_)
   | (with_reducible refine LeO.bind ?_ (fun _ => ?_))
   | exact ih0 _ _ _
   | exact LeO.none _
   | refine LeO.ite ?_ ?_
   | refine LeO.bind ?_ (fun _ => ?_)
set_option maxHeartbeats 8000000 in
set_option maxRecDepth 100000 in
theorem targumlaw5_digits.calls (k : Nat) (a0 : ByteArray) (r : ByteArray) (w : World) (h : targumlaw5_digits.f k a0 = some r) :
  Calls Tryd.prog 37 #[.string a0] w fun e w' => e = .returned (.string r) ∧ Below w.heap.size w w' := by
 have HB := Aside0.mk (Below.refl w.heap.size w)
 have H : (if 0 ≤ (a0.size : Int) then (if ((a0.size : Int) : Int).toNat ≤ 281474976710656 then (targumlaw5_digits.l0 k a0 (List.replicate ((a0.size : Int) : Int).toNat 0) 0) else (none)) else (none)) = some r := h
 clear h
 by_cases c2 : 0 ≤ (a0.size : Int)
 ·rw [if_pos c2] at H
  have c2b0 := eq_true c2
  have c2b1 : decide (0 ≤ (a0.size : Int)) = true := decide_eq_true c2
  clear c2
  by_cases c3 : ((a0.size : Int) : Int).toNat ≤ 281474976710656
  ·rw [if_pos c3] at H
   have c3b0 := eq_true c3
   have c3b1 : decide (((a0.size : Int) : Int).toNat ≤ 281474976710656) = true := decide_eq_true c3
   clear c3
   obtain ⟨y280, hy280⟩ : ∃ y_ : List Int, y_ = (List.replicate ((a0.size : Int) : Int).toNat 0) := ⟨_, rfl⟩
   replace H : (targumlaw5_digits.l0 k a0 y280 0) = some r := by first | (rw [hy280]; with_reducible exact H) | (have H2_ := (Option.bind_some _ _).symm.trans H; rw [hy280]; with_reducible exact H2_) | (have H2_ := (Option.bind_some _ _).symm.trans H; with_reducible exact H2_) | with_reducible exact H | (rw [hy280]; exact H) | exact H
   have Ny280 := Aside0.mk hy280
   clear hy280
   have H' := Aside0.mk H
   clear H
   go_enter Tryd.func37, Tryd.ntmps37
   go_wp2_with (first | ((with_reducible refine gate_dst (N := 7) rfl ?_); refine Kd.R_make (Kd.int .u8) _ 5 rfl (N := 7) rfl 31 _ _ rfl (a0.size : Int) rfl rfl Tryd.underlying31 (.int .u8 0) 1 info5 rfl (by decide) (by omega) 0 (ok := fun _ => True) (okp := fun _ => True) rfl (fun _ hk => hk) trivial (of_decide_eq_true (by first | (with_reducible assumption) | assumption)) (Nat.le_trans (Nat.mul_le_mul_right _ (of_decide_eq_true (by first | (with_reducible assumption) | assumption) : (a0.size : Int).toNat ≤ 281474976710656)) (by omega)) (Below.refl _ _) (Nat.le_refl _) ?_; intro v281 w4 ho5 hb hg_ hnew_; clear hg_ hnew_; (first | rw [← Ny280.out] at ho5 | (simp only [Int.reduceToNat] at ho5; rw [← Ny280.out] at ho5)); have n0_ := Aside0.mk (Kd.R_lower ho5 (below_size bl)); have n1_ := Aside0.mk (below_step bl hb); clear HB; have HO282 := n0_; have HB := n1_; clear n0_ n1_; clear hb ho5))
   go_loopg [4] k (fun kq v4 w' => ∃ (x3_1 : List Int) (x4_1 : Int), v4 = .int .i64 x4_1 ∧ Aside0 (targumlaw5_digits.l0 kq a0 x3_1 x4_1 = some r) ∧ Aside0 (kq ≤ k) ∧ Aside0 (Kd.R (Kd.int .u8) 5 w' w.heap.size (fun _ => True) v281 x3_1) ∧ Aside0 (Below w.heap.size w w'))
   case atStart => exact ⟨(y280), (0), (by first | rfl | (simp; done) | (simp [*]; done) | (simp [wrap64]; done)), H', ⟨Nat.le_refl _⟩, ⟨by (with_reducible repeat (first | apply Kd.R_alloc | apply Kd.R_drewN | apply Kd.R_drew)); exact HO282.out⟩, ⟨bl⟩⟩
   case round =>
    clear H'
    try clear c2; try clear c2b0; try clear c2b1; try clear p2; try clear c3; try clear c3b0; try clear c3b1
    obtain ⟨x3_1, x4_1, rfl, HA, HK1, HO_3, HB⟩ := hrel
    cases gk with
    | zero => exact absurd HA.out (by simp [targumlaw5_digits.l0])
    | succ k1 =>
     have H := HA.out
     clear HA
     simp only [targumlaw5_digits.l0] at H
     by_cases c6 : x4_1 < (a0.size : Int)
     ·rw [if_pos c6] at H
      have c6b0 : decide (x4_1 < (a0.size : Int)) = true := decide_eq_true c6
      clear c6
      by_cases c7 : 0 ≤ x4_1
      ·rw [if_pos c7] at H
       have c7b0 : decide (0 ≤ x4_1) = true := decide_eq_true c7
       clear c7
       by_cases c9 : x4_1 < (x3_1.length : Int)
       ·rw [if_pos c9] at H
        have c9b0 : decide (x4_1 < (x3_1.length : Int)) = true := decide_eq_true c9
        clear c9
        obtain ⟨y283, hy283⟩ : ∃ y_ : List Int, y_ = (x3_1.set (x4_1 : Int).toNat ((48 + (Int.tmod (bt a0 x4_1) 10)) % 256)) := ⟨_, rfl⟩
        replace H : (targumlaw5_digits.l0 k1 a0 y283 (wrap64 (x4_1 + 1))) = some r := by first | (rw [hy283]; with_reducible exact H) | (have H2_ := (Option.bind_some _ _).symm.trans H; rw [hy283]; with_reducible exact H2_) | (have H2_ := (Option.bind_some _ _).symm.trans H; with_reducible exact H2_) | with_reducible exact H | (rw [hy283]; exact H) | exact H
        have Ny283 := Aside0.mk hy283
        clear hy283
        have H' := Aside0.mk H
        clear H
        have p8 : 0 ≤ (x4_1 : Int) := of_decide_eq_true (by first | (with_reducible assumption) | assumption)
        have q8 : x4_1 < (a0.size : Int) := of_decide_eq_true (by first | (with_reducible assumption) | assumption)
        have hx8 := bt_at a0 x4_1
        replace p8 := eq_true p8
        replace q8 := eq_true q8
        have p10 : 0 ≤ (x4_1 : Int) := of_decide_eq_true (by first | (with_reducible assumption) | assumption)
        have q10 : (x4_1 : Int) < ((x3_1.length : Int) : Int) := of_decide_eq_true (by first | (with_reducible assumption) | assumption)
        obtain ⟨go10, co10, eo10, gb10, gl10, cl10, HG10⟩ := Kd.R_form HO_3.out (by omega)
        (first | cases eo10 | (injection eo10 with ea_ en_ ec_; (first | subst ea_ | (injection ea_ with ea_; subst ea_)); subst ec_; clear en_))
        have GB10 := Aside0.mk gb10
        have GG10 := Aside0.mk HG10
        clear gb10 gl10 HG10
        obtain ⟨hx10_0, hf10_0⟩ := Kd.R_celln 0 HO_3.out (x4_1 : Int) p10 q10
        replace p10 := eq_true p10
        replace q10 := eq_true q10
        have HP11 := Kd.R_putg HO_3.out (x4_1 : Int) ((48 + (Int.tmod (bt a0 x4_1) 10)) % 256)
        go_wp2_with (first | ((with_reducible refine gate_store (t := 5) (p := 21) rfl ?_); refine store_event (t := 5) (p := 21) (v := ?vo_w12) (w1 := (wr.setCell ⟨go10, (x4_1 : Int).toNat, none⟩ (.int .u8 ((48 + (Int.tmod (bt a0 x4_1) 10)) % 256)))) ?hg ?ho ?hn ?hr ?_; (case ho => rfl); (case hg => rfl); (case hn => rfl); (case hr => first | (go_simp; done) | (go_simp; rfl)); intro w12 hw; have hg : wr.grownBy w12 (some go10) := (by rw [hw]; exact HP11.2); have hp_ : Kd.R (Kd.int .u8) 5 w12 w.heap.size (fun _ => True) (.slice (some ⟨go10, 0, none⟩) x3_1.length co10) y283 := (by rw [hw, Ny283.out]; exact HP11.1); clear HP11; have n0_ := Aside0.mk (hp_); have n1_ := Aside0.mk ((by rw [hw]; exact below_set (HB.out) GB10.out : Below w.heap.size w w12)); clear HO_3; clear HB; have HO_3 := n0_; have HB := n1_; clear n0_ n1_; clear hg hw hp_))
        go_roundg k1
        case measure => have := HK1.out; omega
        case rel => exact ⟨(y283), (wrap64 (x4_1 + 1)), (by first | rfl | (simp; done) | (simp [*]; done) | (simp [wrap64]; done)), H', ⟨by have := HK1.out; omega⟩, ⟨by (with_reducible repeat (first | apply Kd.R_alloc | apply Kd.R_drewN | apply Kd.R_drew)); exact HO_3.out⟩, ⟨bl⟩⟩
       ·rw [if_neg c9] at H
        exact absurd H (by simp)
      ·rw [if_neg c7] at H
       exact absurd H (by simp)
     ·rw [if_neg c6] at H
      have c6b0 : decide (x4_1 < (a0.size : Int)) = false := decide_eq_false c6
      clear c6
      obtain rfl := Option.some.inj H
      have hcv13 := own_string (P := Tryd.prog) Tryd.underlying31 Tryd.underlying5 Tryd.underlying9 (Kd.own_of_R HO_3.out)
      go_wp2
      go_ret
      exact ⟨by first | rfl | (simp [errW_none, errW_some] <;> rfl) | (simp [*, errW_none, errW_some] <;> rfl), bl⟩
  ·rw [if_neg c3] at H
   exact absurd H (by simp)
 ·rw [if_neg c2] at H
  exact absurd H (by simp)

end Go.Proofs.YtddaggnomcoejaaDoor.PD
