/- Written by this session's own program (xprint, made over the kit's print): Lean functions with the same answers as the Go functions, and the proofs of that. Not trusted: Lean checks it. -/
import Derived.Test.YtddaggnomcoejaaDoorPDx0
import Derived.Test.YtddaggnomcoejaaDoorPDx7
import Derived.Test.YtddaggnomcoejaaDoorXW
namespace Go.Proofs.YtddaggnomcoejaaDoor.PD
open Go.Proofs.YtddaggnomcoejaaDoor.XW Go.RowKit Go.Proofs.YtddaggnomcoejaaDoorW.PrintWords Go.Proofs.YtddaggnomcoejaaDoorW.PrintLast Go.Proofs.YtddaggnomcoejaaDoorW.PrintMore
attribute [local go_sem] max2_int min2_int max_two min_two max_three min_three max_four min_four   -- for this text's walks alone
attribute [local go_sem high] Go.Proofs.YtddaggnomcoejaaDoor.XW.cell_twice
set_option linter.unusedVariables false
set_option linter.unusedSimpArgs false

/-! ### targumref4_Parse: function 32 -/
mutual
def targumref4_Parse.j0 : Nat → ByteArray → Bool → Int → Bool → ByteArray → ByteArray → Option (Int × Bool × ByteArray × ByteArray × Bool)
 | 0, _, _, _, _, _, _ => none
 | k + 1, x5, x26, x226000, x226001, x226002, x226003 => if x26 = true then (if 1 ≤ (x5.size : Int) then (targumref4_Parse.j1 k (x5.extract 1 x5.size) x226000 true x226002 x226003) else (none)) else (targumref4_Parse.j1 k x5 x226000 x226001 x226002 x226003)
def targumref4_Parse.j1 : Nat → ByteArray → Int → Bool → ByteArray → ByteArray → Option (Int × Bool × ByteArray × ByteArray × Bool)
 | 0, _, _, _, _, _ => none
 | k + 1, x5, x226000, x226001, x226002, x226003 => targumref4_Parse.l0 k x5 0 x226000 x226001 x226002 x226003
def targumref4_Parse.j3 : Nat → ByteArray → Int → Int → Bool → ByteArray → ByteArray → Option (Int × Bool × ByteArray × ByteArray × Bool)
 | 0, _, _, _, _, _, _ => none
 | k + 1, x5, x6, x226000, x226001, x226002, x226003 => if (wrap64 ((x5.size : Int) - x6)) < 4 then (targumref4_Parse.j4 k x5 x6 true x226000 x226001 x226002 x226003) else (if 0 ≤ (wrap64 (x6 + 1)) then (if (wrap64 (x6 + 1)) < (x5.size : Int) then (if (bt x5 (wrap64 (x6 + 1))) = 101 then (if 0 ≤ (wrap64 (x6 + 2)) then (if (wrap64 (x6 + 2)) < (x5.size : Int) then (if (bt x5 (wrap64 (x6 + 2))) = 43 then (targumref4_Parse.j4 k x5 x6 false x226000 x226001 x226002 x226003) else (targumref4_Parse.j4 k x5 x6 ((bt x5 (wrap64 (x6 + 2))) != 45) x226000 x226001 x226002 x226003)) else (none)) else (none)) else (targumref4_Parse.j4 k x5 x6 true x226000 x226001 x226002 x226003)) else (none)) else (none))
def targumref4_Parse.j4 : Nat → ByteArray → Int → Bool → Int → Bool → ByteArray → ByteArray → Option (Int × Bool × ByteArray × ByteArray × Bool)
 | 0, _, _, _, _, _, _, _ => none
 | k + 1, x5, x6, x67, x226000, x226001, x226002, x226003 => if x67 = true then (some (0, false, (⟨#[]⟩ : ByteArray), (⟨#[]⟩ : ByteArray), false)) else (if 0 ≤ x6 then (if x6 ≤ (x5.size : Int) then (if 0 ≤ (wrap64 (x6 + 2)) then (if (wrap64 (x6 + 2)) ≤ (x5.size : Int) then (if (wrap64 (x6 + 2)) < (x5.size : Int) then (if (bt x5 (wrap64 (x6 + 2))) = 43 then (if 0 ≤ (wrap64 (x6 + 3)) then (if (wrap64 (x6 + 3)) ≤ (x5.size : Int) then ((targumref4_Dec.f k x226000 x226001 (x5.extract 0 (x6 : Int).toNat) (x5.extract ((wrap64 (x6 + 3)) : Int).toNat x5.size)).bind fun t226 => (if t226 = true then (if 0 < ((x5.extract ((wrap64 (x6 + 3)) : Int).toNat x5.size).size : Int) then (if (bt (x5.extract ((wrap64 (x6 + 3)) : Int).toNat x5.size) 0) = 45 then (some (0, false, (⟨#[]⟩ : ByteArray), (⟨#[]⟩ : ByteArray), false)) else (some (x226000, x226001, x5.extract 0 (x6 : Int).toNat, x5.extract ((wrap64 (x6 + 3)) : Int).toNat x5.size, true))) else (none)) else (some (0, false, (⟨#[]⟩ : ByteArray), (⟨#[]⟩ : ByteArray), false)))) else (none)) else (none)) else ((targumref4_Dec.f k x226000 x226001 (x5.extract 0 (x6 : Int).toNat) (x5.extract ((wrap64 (x6 + 2)) : Int).toNat x5.size)).bind fun t227 => (if t227 = true then (some (x226000, x226001, x5.extract 0 (x6 : Int).toNat, x5.extract ((wrap64 (x6 + 2)) : Int).toNat x5.size, true)) else (some (0, false, (⟨#[]⟩ : ByteArray), (⟨#[]⟩ : ByteArray), false))))) else (none)) else (none)) else (none)) else (none)) else (none))
def targumref4_Parse.l0 : Nat → ByteArray → Int → Int → Bool → ByteArray → ByteArray → Option (Int × Bool × ByteArray × ByteArray × Bool)
 | 0, _, _, _, _, _, _ => none
 | k + 1, x5, x6, x226000, x226001, x226002, x226003 => if x6 < (x5.size : Int) then (if 0 ≤ x6 then (if (bt x5 x6) = 46 then (targumref4_Parse.j3 k x5 x6 x226000 x226001 x226002 x226003) else (targumref4_Parse.l0 k x5 (wrap64 (x6 + 1)) x226000 x226001 x226002 x226003)) else (none)) else (targumref4_Parse.j3 k x5 x6 x226000 x226001 x226002 x226003)
end
def targumref4_Parse.f (k : Nat) (a0 : ByteArray) : Option (Int × Bool × ByteArray × ByteArray × Bool) := if a0.toList = ([46, 110, 97, 110] : List UInt8) then (some (2, false, (⟨#[]⟩ : ByteArray), (⟨#[]⟩ : ByteArray), true)) else (if a0.toList = ([46, 105, 110, 102] : List UInt8) then (some (1, false, (⟨#[]⟩ : ByteArray), (⟨#[]⟩ : ByteArray), true)) else (if a0.toList = ([45, 46, 105, 110, 102] : List UInt8) then (some (1, true, (⟨#[]⟩ : ByteArray), (⟨#[]⟩ : ByteArray), true)) else (if (a0.size : Int) > 0 then (if 0 < (a0.size : Int) then (targumref4_Parse.j0 k a0 ((bt a0 0) == 45) 0 false (⟨#[]⟩ : ByteArray) (⟨#[]⟩ : ByteArray)) else (none)) else (targumref4_Parse.j0 k a0 false 0 false (⟨#[]⟩ : ByteArray) (⟨#[]⟩ : ByteArray)))))
theorem targumref4_Parse.mono_l : ∀ k, (∀ y0 y1 y2 y3 y4 y5, LeO (targumref4_Parse.j0 k y0 y1 y2 y3 y4 y5) (targumref4_Parse.j0 (k + 1) y0 y1 y2 y3 y4 y5)) ∧ (∀ y0 y1 y2 y3 y4, LeO (targumref4_Parse.j1 k y0 y1 y2 y3 y4) (targumref4_Parse.j1 (k + 1) y0 y1 y2 y3 y4)) ∧ (∀ y0 y1 y2 y3 y4 y5, LeO (targumref4_Parse.j3 k y0 y1 y2 y3 y4 y5) (targumref4_Parse.j3 (k + 1) y0 y1 y2 y3 y4 y5)) ∧ (∀ y0 y1 y2 y3 y4 y5 y6, LeO (targumref4_Parse.j4 k y0 y1 y2 y3 y4 y5 y6) (targumref4_Parse.j4 (k + 1) y0 y1 y2 y3 y4 y5 y6)) ∧ (∀ y0 y1 y2 y3 y4 y5, LeO (targumref4_Parse.l0 k y0 y1 y2 y3 y4 y5) (targumref4_Parse.l0 (k + 1) y0 y1 y2 y3 y4 y5))
 | 0 => ⟨fun _ _ _ _ _ _ r h => by simp [targumref4_Parse.j0] at h, fun _ _ _ _ _ r h => by simp [targumref4_Parse.j1] at h, fun _ _ _ _ _ _ r h => by simp [targumref4_Parse.j3] at h, fun _ _ _ _ _ _ _ r h => by simp [targumref4_Parse.j4] at h, fun _ _ _ _ _ _ r h => by simp [targumref4_Parse.l0] at h⟩
 | k + 1 => by
  obtain ⟨ih0, ih1, ih2, ih3, ih4⟩ := targumref4_Parse.mono_l k
  refine ⟨?_, ?_, ?_, ?_, ?_⟩
  ·intro y0 y1 y2 y3 y4 y5
   unfold targumref4_Parse.j0
   repeat' first
   | (with_reducible exact ih0 _ _ _ _ _ _)
   | (with_reducible exact ih1 _ _ _ _ _)
   | (with_reducible exact ih2 _ _ _ _ _ _)
   | (with_reducible exact ih3 _ _ _ _ _ _ _)
   | (with_reducible exact ih4 _ _ _ _ _ _)
   | (with_reducible exact targumref4_Dec.mono _ _ _ _ _)
   | (with_reducible exact LeO.refl _)
   | (with_reducible exact LeO.none _)
   | (with_reducible refine LeO.ite ?_ ?_)
   | (with_reducible refine LeO.bind ?_ (fun _ => ?_))
   | exact ih0 _ _ _ _ _ _
   | exact ih1 _ _ _ _ _
   | exact ih2 _ _ _ _ _ _
   | exact ih3 _ _ _ _ _ _ _
   | exact ih4 _ _ _ _ _ _
   | exact targumref4_Dec.mono _ _ _ _ _
   | exact LeO.none _
   | refine LeO.ite ?_ ?_
   | refine LeO.bind ?_ (fun _ => ?_)
  ·intro y0 y1 y2 y3 y4
   unfold targumref4_Parse.j1
   repeat' first
   | (with_reducible exact ih0 _ _ _ _ _ _)
   | (with_reducible exact ih1 _ _ _ _ _)
   | (with_reducible exact ih2 _ _ _ _ _ _)
   | (with_reducible exact ih3 _ _ _ _ _ _ _)
   | (with_reducible exact ih4 _ _ _ _ _ _)
   | (with_reducible exact targumref4_Dec.mono _ _ _ _ _)
   | (with_reducible exact LeO.refl _)
   | (with_reducible exact LeO.none _)
   | (with_reducible refine LeO.ite ?_ ?_)
   | (with_reducible refine LeO.bind ?_ (fun _ => ?_))
   | exact ih0 _ _ _ _ _ _
   | exact ih1 _ _ _ _ _
   | exact ih2 _ _ _ _ _ _
   | exact ih3 _ _ _ _ _ _ _
   | exact ih4 _ _ _ _ _ _
   | exact targumref4_Dec.mono _ _ _ _ _
   | exact LeO.none _
   | refine LeO.ite ?_ ?_
   | refine LeO.bind ?_ (fun _ => ?_)
  ·intro y0 y1 y2 y3 y4 y5
   unfold targumref4_Parse.j3
   repeat' first
   | (with_reducible exact ih0 _ _ _ _ _ _)
   | (with_reducible exact ih1 _ _ _ _ _)
   | (with_reducible exact ih2 _ _ _ _ _ _)
   | (with_reducible exact ih3 _ _ _ _ _ _ _)
   | (with_reducible exact ih4 _ _ _ _ _ _)
   | (with_reducible exact targumref4_Dec.mono _ _ _ _ _)
   | (with_reducible exact LeO.refl _)
   | (with_reducible exact LeO.none _)
   | (with_reducible refine LeO.ite ?_ ?_)
   | (with_reducible refine LeO.bind ?_ (fun _ => ?_))
   | exact ih0 _ _ _ _ _ _
   | exact ih1 _ _ _ _ _
   | exact ih2 _ _ _ _ _ _
   | exact ih3 _ _ _ _ _ _ _
   | exact ih4 _ _ _ _ _ _
   | exact targumref4_Dec.mono _ _ _ _ _
   | exact LeO.none _
   | refine LeO.ite ?_ ?_
   | refine LeO.bind ?_ (fun _ => ?_)
  ·intro y0 y1 y2 y3 y4 y5 y6
   unfold targumref4_Parse.j4
   repeat' first
   | (with_reducible exact ih0 _ _ _ _ _ _)
   | (with_reducible exact ih1 _ _ _ _ _)
   | (with_reducible exact ih2 _ _ _ _ _ _)
   | (with_reducible exact ih3 _ _ _ _ _ _ _)
   | (with_reducible exact ih4 _ _ _ _ _ _)
   | (with_reducible exact targumref4_Dec.mono _ _ _ _ _)
   | (with_reducible exact LeO.refl _)
   | (with_reducible exact LeO.none _)
   | (with_reducible refine LeO.ite ?_ ?_)
   | (with_reducible refine LeO.bind ?_ (fun _ => ?_))
   | exact ih0 _ _ _ _ _ _
   | exact ih1 _ _ _ _ _
   | exact ih2 _ _ _ _ _ _
   | exact ih3 _ _ _ _ _ _ _
   | exact ih4 _ _ _ _ _ _
   | exact targumref4_Dec.mono _ _ _ _ _
   | exact LeO.none _
   | refine LeO.ite ?_ ?_
   | refine LeO.bind ?_ (fun _ => ?_)
  ·intro y0 y1 y2 y3 y4 y5
   unfold targumref4_Parse.l0
   repeat' first
   | (with_reducible exact ih0 _ _ _ _ _ _)
   | (with_reducible exact ih1 _ _ _ _ _)
   | (with_reducible exact ih2 _ _ _ _ _ _)
   | (with_reducible exact ih3 _ _ _ _ _ _ _)
   | (with_reducible exact ih4 _ _ _ _ _ _)
   | (with_reducible exact targumref4_Dec.mono _ _ _ _ _)
   | (with_reducible exact LeO.refl _)
   | (with_reducible exact LeO.none _)
   | (with_reducible refine LeO.ite ?_ ?_)
   | (with_reducible refine LeO.bind ?_ (fun _ => ?_))
   | exact ih0 _ _ _ _ _ _
   | exact ih1 _ _ _ _ _
   | exact ih2 _ _ _ _ _ _
   | exact ih3 _ _ _ _ _ _ _
   | exact ih4 _ _ _ _ _ _
   | exact targumref4_Dec.mono _ _ _ _ _
   | exact LeO.none _
   | refine LeO.ite ?_ ?_
   | refine LeO.bind ?_ (fun _ => ?_)
theorem targumref4_Parse.mono : ∀ a0 k, LeO (targumref4_Parse.f k a0) (targumref4_Parse.f (k + 1) a0) := by
 intro a0 k
 obtain ⟨ih0, ih1, ih2, ih3, ih4⟩ := targumref4_Parse.mono_l k
 unfold targumref4_Parse.f
 repeat' first
   | (with_reducible exact ih0 _ _ _ _ _ _)
   | (with_reducible exact ih1 _ _ _ _ _)
   | (with_reducible exact ih2 _ _ _ _ _ _)
   | (with_reducible exact ih3 _ _ _ _ _ _ _)
   | (with_reducible exact ih4 _ _ _ _ _ _)
   | (with_reducible exact targumref4_Dec.mono _ _ _ _ _)
   | (with_reducible exact LeO.refl _)
   | (with_reducible exact LeO.none _)
   | (with_reducible refine LeO.ite ?_ ?_)
   | (with_reducible refine LeO.bind ?_ (fun _ => ?_))
   | exact ih0 _ _ _ _ _ _
   | exact ih1 _ _ _ _ _
   | exact ih2 _ _ _ _ _ _
   | exact ih3 _ _ _ _ _ _ _
   | exact ih4 _ _ _ _ _ _
   | exact targumref4_Dec.mono _ _ _ _ _
   | exact LeO.none _
   | refine LeO.ite ?_ ?_
   | refine LeO.bind ?_ (fun _ => ?_)
def targumref4_Parse.T17 : Bool × List (List Nat × List Nat) := (true, [([], []), ([], []), ([0, 1], [0, 1]), ([], []), ([], []), ([4], [4]), ([3, 5], [3, 5]), ([0, 1, 2], []), ([7, 2, 0, 1, 2], [2, 7]), ([0, 1, 2, 3, 4, 5, 6, 7, 8], []), ([9, 6, 8, 0, 1, 2, 3, 4, 5, 6, 7, 8], [6, 9])])
def targumref4_Parse.B17 : List Nat := [0, 0, 3, 0, 0, 16, 56, 7, 135, 511, 1023]
theorem targumref4_Parse.tab17 : rtab .any (opsOf Tryd.f32 17) = targumref4_Parse.T17 := by kernel_rfl
theorem targumref4_Parse.bits17 : waitsOk targumref4_Parse.T17.2 targumref4_Parse.B17 = true := by kernel_rfl
set_option maxHeartbeats 8000000 in
set_option maxRecDepth 100000 in
theorem targumref4_Parse.calls (k : Nat) (a0 : ByteArray) (r1 : Int) (r2 : Bool) (r3 : ByteArray) (r4 : ByteArray) (r5 : Bool) (w : World) (h : targumref4_Parse.f k a0 = some (r1, r2, r3, r4, r5)) :
  Calls Tryd.prog 32 #[.string a0] w fun e w' => e = .returned (.tuple #[.agg #[.int .i64 r1, .bool r2, .string r3, .string r4], .bool r5]) ∧ Below w.heap.size w w' := by
 have hu40 := Tryd.underlying40
 have HB := Aside0.mk (Below.refl w.heap.size w)
 have H : (if a0.toList = ([46, 110, 97, 110] : List UInt8) then (some (2, false, (⟨#[]⟩ : ByteArray), (⟨#[]⟩ : ByteArray), true)) else (if a0.toList = ([46, 105, 110, 102] : List UInt8) then (some (1, false, (⟨#[]⟩ : ByteArray), (⟨#[]⟩ : ByteArray), true)) else (if a0.toList = ([45, 46, 105, 110, 102] : List UInt8) then (some (1, true, (⟨#[]⟩ : ByteArray), (⟨#[]⟩ : ByteArray), true)) else (if (a0.size : Int) > 0 then (if 0 < (a0.size : Int) then (targumref4_Parse.j0 k a0 ((bt a0 0) == 45) 0 false (⟨#[]⟩ : ByteArray) (⟨#[]⟩ : ByteArray)) else (none)) else (targumref4_Parse.j0 k a0 false 0 false (⟨#[]⟩ : ByteArray) (⟨#[]⟩ : ByteArray)))))) = some (r1, r2, r3, r4, r5) := h
 clear h
 by_cases c2 : a0.toList = ([46, 110, 97, 110] : List UInt8)
 ·rw [if_pos c2] at H
  have c2b0 : (a0.toList == ([46, 110, 97, 110] : List UInt8)) = true := beq_iff_eq.mpr c2
  have c2b1 : (a0.toList != ([46, 110, 97, 110] : List UInt8)) = false := bne_eq_false_iff_eq.mpr c2
  clear c2
  simp only [Option.some.injEq, Prod.mk.injEq] at H
  obtain ⟨rfl, rfl, rfl, rfl, rfl⟩ := H
  go_enter Tryd.func32, Tryd.ntmps32
  go_wp2_with (first | ((with_reducible refine gate_dst (N := 2) rfl ?_); refine box_event ?hg (N := 2) ?hd (cs := #[.int .i64 0, .bool false, .string (⟨#[]⟩ : ByteArray), .string (⟨#[]⟩ : ByteArray)]) (t := 40) ?hr ?_; (case hd => rfl); (case hg => rfl); (case hr => first | (go_simp; done) | (go_simp; rfl)); intro gb224 hg w3 hbox hb; have n0_ := Aside0.mk (below_step bl hb); have n1_ := Aside0.mk (hbox); have n2_ := Aside0.mk ((by rw [hg]; exact (below_size bl) : w.heap.size ≤ gb224)); have n3_ := Aside0.mk ((by rw [hg]; exact (below_size bl) : w.heap.size ≤ gb224)); clear HB; have HB := n0_; have BK224 := n1_; have GW224 := n2_; have GE224 := n3_; clear n0_ n1_ n2_ n3_; clear hb hbox hg) | ((with_reducible refine gate_dst (N := 4) rfl ?_); refine box_event ?hg (N := 4) ?hd (cs := #[.int .i64 0, .bool false, .string (⟨#[]⟩ : ByteArray), .string (⟨#[]⟩ : ByteArray)]) (t := 40) ?hr ?_; (case hd => rfl); (case hg => rfl); (case hr => first | (go_simp; done) | (go_simp; rfl)); intro gb225 hg w4 hbox hb; have n0_ := Aside0.mk (blk_below (g := gb224) (o := .cells #[.int .i64 0, .bool false, .string (⟨#[]⟩ : ByteArray), .string (⟨#[]⟩ : ByteArray)] 40 (0, 0)) bk hb); have n1_ := Aside0.mk (below_step bl hb); have n2_ := Aside0.mk (hbox); have n3_ := Aside0.mk ((by rw [hg]; exact (below_size bl) : w.heap.size ≤ gb225)); have n4_ := Aside0.mk ((by rw [hg]; exact (below_size bl) : w.heap.size ≤ gb225)); have n5_ := Aside0.mk ((by rw [hg]; exact Nat.ne_of_lt (blk_lt (g := gb224) (o := .cells #[.int .i64 0, .bool false, .string (⟨#[]⟩ : ByteArray), .string (⟨#[]⟩ : ByteArray)] 40 (0, 0)) bk) : gb224 ≠ gb225)); have n6_ := Aside0.mk ((by rw [hg]; exact Nat.ne_of_gt (blk_lt (g := gb224) (o := .cells #[.int .i64 0, .bool false, .string (⟨#[]⟩ : ByteArray), .string (⟨#[]⟩ : ByteArray)] 40 (0, 0)) bk) : gb225 ≠ gb224)); clear BK224; clear HB; have BK224 := n0_; have HB := n1_; have BK225 := n2_; have GW225 := n3_; have GE225 := n4_; have NB224_225 := n5_; have NB225_224 := n6_; clear n0_ n1_ n2_ n3_ n4_ n5_ n6_; clear hb hbox hg; have hnb5 := NB225_224.out; have hnc5 := NB224_225.out; have hcz6_0 : w4.cell? ⟨gb225, 0, none⟩ = some (.int .i64 0) := (blk_cell BK225.out 0).trans rfl; have hcz6_1 : w4.cell? ⟨gb225, 1, none⟩ = some (.bool false) := (blk_cell BK225.out 1).trans rfl; have hcz6_2 : w4.cell? ⟨gb225, 2, none⟩ = some (.string (⟨#[]⟩ : ByteArray)) := (blk_cell BK225.out 2).trans rfl; have hcz6_3 : w4.cell? ⟨gb225, 3, none⟩ = some (.string (⟨#[]⟩ : ByteArray)) := (blk_cell BK225.out 3).trans rfl; have hfz6_0 := blk_frozen BK225.out 0; have hfz6_1 := blk_frozen BK225.out 1; have hfz6_2 := blk_frozen BK225.out 2; have hfz6_3 := blk_frozen BK225.out 3; have hcz7_0 : w4.cell? ⟨gb224, 0, none⟩ = some (.int .i64 0) := (blk_cell BK224.out 0).trans rfl; have hcz7_1 : w4.cell? ⟨gb224, 1, none⟩ = some (.bool false) := (blk_cell BK224.out 1).trans rfl; have hcz7_2 : w4.cell? ⟨gb224, 2, none⟩ = some (.string (⟨#[]⟩ : ByteArray)) := (blk_cell BK224.out 2).trans rfl; have hcz7_3 : w4.cell? ⟨gb224, 3, none⟩ = some (.string (⟨#[]⟩ : ByteArray)) := (blk_cell BK224.out 3).trans rfl; have hfz7_0 := blk_frozen BK224.out 0; have hfz7_1 := blk_frozen BK224.out 1; have hfz7_2 := blk_frozen BK224.out 2; have hfz7_3 := blk_frozen BK224.out 3))
  refine bodyPost_ret (results_ct rfl _ _ gb224 40 #[.int .i64 2, .bool false, .string (⟨#[]⟩ : ByteArray), .string (⟨#[]⟩ : ByteArray)] (0, 0) _ rfl bk Tryd.underlying40 rfl (by kernel_rfl)) rfl ?_
  exact ⟨by first | rfl | (simp [errW_none, errW_some] <;> rfl) | (simp [*, errW_none, errW_some] <;> rfl), bl⟩
 ·rw [if_neg c2] at H
  have c2b0 : (a0.toList == ([46, 110, 97, 110] : List UInt8)) = false := beq_eq_false_iff_ne.mpr c2
  have c2b1 : (a0.toList != ([46, 110, 97, 110] : List UInt8)) = true := bne_iff_ne.mpr c2
  by_cases c8 : a0.toList = ([46, 105, 110, 102] : List UInt8)
  ·rw [if_pos c8] at H
   have c8b0 : (a0.toList == ([46, 105, 110, 102] : List UInt8)) = true := beq_iff_eq.mpr c8
   have c8b1 : (a0.toList != ([46, 105, 110, 102] : List UInt8)) = false := bne_eq_false_iff_eq.mpr c8
   clear c8
   simp only [Option.some.injEq, Prod.mk.injEq] at H
   obtain ⟨rfl, rfl, rfl, rfl, rfl⟩ := H
   go_enter Tryd.func32, Tryd.ntmps32
   go_wp2_with (first | ((with_reducible refine gate_dst (N := 2) rfl ?_); refine box_event ?hg (N := 2) ?hd (cs := #[.int .i64 0, .bool false, .string (⟨#[]⟩ : ByteArray), .string (⟨#[]⟩ : ByteArray)]) (t := 40) ?hr ?_; (case hd => rfl); (case hg => rfl); (case hr => first | (go_simp; done) | (go_simp; rfl)); intro gb224 hg w9 hbox hb; have n0_ := Aside0.mk (below_step bl hb); have n1_ := Aside0.mk (hbox); have n2_ := Aside0.mk ((by rw [hg]; exact (below_size bl) : w.heap.size ≤ gb224)); have n3_ := Aside0.mk ((by rw [hg]; exact (below_size bl) : w.heap.size ≤ gb224)); clear HB; have HB := n0_; have BK224 := n1_; have GW224 := n2_; have GE224 := n3_; clear n0_ n1_ n2_ n3_; clear hb hbox hg) | ((with_reducible refine gate_dst (N := 4) rfl ?_); refine box_event ?hg (N := 4) ?hd (cs := #[.int .i64 0, .bool false, .string (⟨#[]⟩ : ByteArray), .string (⟨#[]⟩ : ByteArray)]) (t := 40) ?hr ?_; (case hd => rfl); (case hg => rfl); (case hr => first | (go_simp; done) | (go_simp; rfl)); intro gb225 hg w10 hbox hb; have n0_ := Aside0.mk (blk_below (g := gb224) (o := .cells #[.int .i64 0, .bool false, .string (⟨#[]⟩ : ByteArray), .string (⟨#[]⟩ : ByteArray)] 40 (0, 0)) bk hb); have n1_ := Aside0.mk (below_step bl hb); have n2_ := Aside0.mk (hbox); have n3_ := Aside0.mk ((by rw [hg]; exact (below_size bl) : w.heap.size ≤ gb225)); have n4_ := Aside0.mk ((by rw [hg]; exact (below_size bl) : w.heap.size ≤ gb225)); have n5_ := Aside0.mk ((by rw [hg]; exact Nat.ne_of_lt (blk_lt (g := gb224) (o := .cells #[.int .i64 0, .bool false, .string (⟨#[]⟩ : ByteArray), .string (⟨#[]⟩ : ByteArray)] 40 (0, 0)) bk) : gb224 ≠ gb225)); have n6_ := Aside0.mk ((by rw [hg]; exact Nat.ne_of_gt (blk_lt (g := gb224) (o := .cells #[.int .i64 0, .bool false, .string (⟨#[]⟩ : ByteArray), .string (⟨#[]⟩ : ByteArray)] 40 (0, 0)) bk) : gb225 ≠ gb224)); clear BK224; clear HB; have BK224 := n0_; have HB := n1_; have BK225 := n2_; have GW225 := n3_; have GE225 := n4_; have NB224_225 := n5_; have NB225_224 := n6_; clear n0_ n1_ n2_ n3_ n4_ n5_ n6_; clear hb hbox hg; have hnb11 := NB225_224.out; have hnc11 := NB224_225.out; have hcz12_0 : w10.cell? ⟨gb225, 0, none⟩ = some (.int .i64 0) := (blk_cell BK225.out 0).trans rfl; have hcz12_1 : w10.cell? ⟨gb225, 1, none⟩ = some (.bool false) := (blk_cell BK225.out 1).trans rfl; have hcz12_2 : w10.cell? ⟨gb225, 2, none⟩ = some (.string (⟨#[]⟩ : ByteArray)) := (blk_cell BK225.out 2).trans rfl; have hcz12_3 : w10.cell? ⟨gb225, 3, none⟩ = some (.string (⟨#[]⟩ : ByteArray)) := (blk_cell BK225.out 3).trans rfl; have hfz12_0 := blk_frozen BK225.out 0; have hfz12_1 := blk_frozen BK225.out 1; have hfz12_2 := blk_frozen BK225.out 2; have hfz12_3 := blk_frozen BK225.out 3; have hcz13_0 : w10.cell? ⟨gb224, 0, none⟩ = some (.int .i64 0) := (blk_cell BK224.out 0).trans rfl; have hcz13_1 : w10.cell? ⟨gb224, 1, none⟩ = some (.bool false) := (blk_cell BK224.out 1).trans rfl; have hcz13_2 : w10.cell? ⟨gb224, 2, none⟩ = some (.string (⟨#[]⟩ : ByteArray)) := (blk_cell BK224.out 2).trans rfl; have hcz13_3 : w10.cell? ⟨gb224, 3, none⟩ = some (.string (⟨#[]⟩ : ByteArray)) := (blk_cell BK224.out 3).trans rfl; have hfz13_0 := blk_frozen BK224.out 0; have hfz13_1 := blk_frozen BK224.out 1; have hfz13_2 := blk_frozen BK224.out 2; have hfz13_3 := blk_frozen BK224.out 3))
   refine bodyPost_ret (results_ct rfl _ _ gb224 40 #[.int .i64 1, .bool false, .string (⟨#[]⟩ : ByteArray), .string (⟨#[]⟩ : ByteArray)] (0, 0) _ rfl bk Tryd.underlying40 rfl (by kernel_rfl)) rfl ?_
   exact ⟨by first | rfl | (simp [errW_none, errW_some] <;> rfl) | (simp [*, errW_none, errW_some] <;> rfl), bl⟩
  ·rw [if_neg c8] at H
   have c8b0 : (a0.toList == ([46, 105, 110, 102] : List UInt8)) = false := beq_eq_false_iff_ne.mpr c8
   have c8b1 : (a0.toList != ([46, 105, 110, 102] : List UInt8)) = true := bne_iff_ne.mpr c8
   by_cases c14 : a0.toList = ([45, 46, 105, 110, 102] : List UInt8)
   ·rw [if_pos c14] at H
    have c14b0 : (a0.toList == ([45, 46, 105, 110, 102] : List UInt8)) = true := beq_iff_eq.mpr c14
    have c14b1 : (a0.toList != ([45, 46, 105, 110, 102] : List UInt8)) = false := bne_eq_false_iff_eq.mpr c14
    clear c14
    simp only [Option.some.injEq, Prod.mk.injEq] at H
    obtain ⟨rfl, rfl, rfl, rfl, rfl⟩ := H
    go_enter Tryd.func32, Tryd.ntmps32
    go_wp2_with (first | ((with_reducible refine gate_dst (N := 2) rfl ?_); refine box_event ?hg (N := 2) ?hd (cs := #[.int .i64 0, .bool false, .string (⟨#[]⟩ : ByteArray), .string (⟨#[]⟩ : ByteArray)]) (t := 40) ?hr ?_; (case hd => rfl); (case hg => rfl); (case hr => first | (go_simp; done) | (go_simp; rfl)); intro gb224 hg w15 hbox hb; have n0_ := Aside0.mk (below_step bl hb); have n1_ := Aside0.mk (hbox); have n2_ := Aside0.mk ((by rw [hg]; exact (below_size bl) : w.heap.size ≤ gb224)); have n3_ := Aside0.mk ((by rw [hg]; exact (below_size bl) : w.heap.size ≤ gb224)); clear HB; have HB := n0_; have BK224 := n1_; have GW224 := n2_; have GE224 := n3_; clear n0_ n1_ n2_ n3_; clear hb hbox hg) | ((with_reducible refine gate_dst (N := 4) rfl ?_); refine box_event ?hg (N := 4) ?hd (cs := #[.int .i64 0, .bool false, .string (⟨#[]⟩ : ByteArray), .string (⟨#[]⟩ : ByteArray)]) (t := 40) ?hr ?_; (case hd => rfl); (case hg => rfl); (case hr => first | (go_simp; done) | (go_simp; rfl)); intro gb225 hg w16 hbox hb; have n0_ := Aside0.mk (blk_below (g := gb224) (o := .cells #[.int .i64 0, .bool false, .string (⟨#[]⟩ : ByteArray), .string (⟨#[]⟩ : ByteArray)] 40 (0, 0)) bk hb); have n1_ := Aside0.mk (below_step bl hb); have n2_ := Aside0.mk (hbox); have n3_ := Aside0.mk ((by rw [hg]; exact (below_size bl) : w.heap.size ≤ gb225)); have n4_ := Aside0.mk ((by rw [hg]; exact (below_size bl) : w.heap.size ≤ gb225)); have n5_ := Aside0.mk ((by rw [hg]; exact Nat.ne_of_lt (blk_lt (g := gb224) (o := .cells #[.int .i64 0, .bool false, .string (⟨#[]⟩ : ByteArray), .string (⟨#[]⟩ : ByteArray)] 40 (0, 0)) bk) : gb224 ≠ gb225)); have n6_ := Aside0.mk ((by rw [hg]; exact Nat.ne_of_gt (blk_lt (g := gb224) (o := .cells #[.int .i64 0, .bool false, .string (⟨#[]⟩ : ByteArray), .string (⟨#[]⟩ : ByteArray)] 40 (0, 0)) bk) : gb225 ≠ gb224)); clear BK224; clear HB; have BK224 := n0_; have HB := n1_; have BK225 := n2_; have GW225 := n3_; have GE225 := n4_; have NB224_225 := n5_; have NB225_224 := n6_; clear n0_ n1_ n2_ n3_ n4_ n5_ n6_; clear hb hbox hg; have hnb17 := NB225_224.out; have hnc17 := NB224_225.out; have hcz18_0 : w16.cell? ⟨gb225, 0, none⟩ = some (.int .i64 0) := (blk_cell BK225.out 0).trans rfl; have hcz18_1 : w16.cell? ⟨gb225, 1, none⟩ = some (.bool false) := (blk_cell BK225.out 1).trans rfl; have hcz18_2 : w16.cell? ⟨gb225, 2, none⟩ = some (.string (⟨#[]⟩ : ByteArray)) := (blk_cell BK225.out 2).trans rfl; have hcz18_3 : w16.cell? ⟨gb225, 3, none⟩ = some (.string (⟨#[]⟩ : ByteArray)) := (blk_cell BK225.out 3).trans rfl; have hfz18_0 := blk_frozen BK225.out 0; have hfz18_1 := blk_frozen BK225.out 1; have hfz18_2 := blk_frozen BK225.out 2; have hfz18_3 := blk_frozen BK225.out 3; have hcz19_0 : w16.cell? ⟨gb224, 0, none⟩ = some (.int .i64 0) := (blk_cell BK224.out 0).trans rfl; have hcz19_1 : w16.cell? ⟨gb224, 1, none⟩ = some (.bool false) := (blk_cell BK224.out 1).trans rfl; have hcz19_2 : w16.cell? ⟨gb224, 2, none⟩ = some (.string (⟨#[]⟩ : ByteArray)) := (blk_cell BK224.out 2).trans rfl; have hcz19_3 : w16.cell? ⟨gb224, 3, none⟩ = some (.string (⟨#[]⟩ : ByteArray)) := (blk_cell BK224.out 3).trans rfl; have hfz19_0 := blk_frozen BK224.out 0; have hfz19_1 := blk_frozen BK224.out 1; have hfz19_2 := blk_frozen BK224.out 2; have hfz19_3 := blk_frozen BK224.out 3))
    refine bodyPost_ret (results_ct rfl _ _ gb224 40 #[.int .i64 1, .bool true, .string (⟨#[]⟩ : ByteArray), .string (⟨#[]⟩ : ByteArray)] (0, 0) _ rfl bk Tryd.underlying40 rfl (by kernel_rfl)) rfl ?_
    exact ⟨by first | rfl | (simp [errW_none, errW_some] <;> rfl) | (simp [*, errW_none, errW_some] <;> rfl), bl⟩
   ·rw [if_neg c14] at H
    have c14b0 : (a0.toList == ([45, 46, 105, 110, 102] : List UInt8)) = false := beq_eq_false_iff_ne.mpr c14
    have c14b1 : (a0.toList != ([45, 46, 105, 110, 102] : List UInt8)) = true := bne_iff_ne.mpr c14
    have HC20 := Aside0.mk H
    clear H
    go_enter Tryd.func32, Tryd.ntmps32
    go_upto_region 10 with (first | ((with_reducible refine gate_dst (N := 2) rfl ?_); refine box_event ?hg (N := 2) ?hd (cs := #[.int .i64 0, .bool false, .string (⟨#[]⟩ : ByteArray), .string (⟨#[]⟩ : ByteArray)]) (t := 40) ?hr ?_; (case hd => rfl); (case hg => rfl); (case hr => first | (go_simp; done) | (go_simp; rfl)); intro gb224 hg w21 hbox hb; have n0_ := Aside0.mk (below_step bl hb); have n1_ := Aside0.mk (hbox); have n2_ := Aside0.mk ((by rw [hg]; exact (below_size bl) : w.heap.size ≤ gb224)); have n3_ := Aside0.mk ((by rw [hg]; exact (below_size bl) : w.heap.size ≤ gb224)); clear HB; have HB := n0_; have BK224 := n1_; have GW224 := n2_; have GE224 := n3_; clear n0_ n1_ n2_ n3_; clear hb hbox hg) | ((with_reducible refine gate_dst (N := 4) rfl ?_); refine box_event ?hg (N := 4) ?hd (cs := #[.int .i64 0, .bool false, .string (⟨#[]⟩ : ByteArray), .string (⟨#[]⟩ : ByteArray)]) (t := 40) ?hr ?_; (case hd => rfl); (case hg => rfl); (case hr => first | (go_simp; done) | (go_simp; rfl)); intro gb225 hg w22 hbox hb; have n0_ := Aside0.mk (blk_below (g := gb224) (o := .cells #[.int .i64 0, .bool false, .string (⟨#[]⟩ : ByteArray), .string (⟨#[]⟩ : ByteArray)] 40 (0, 0)) bk hb); have n1_ := Aside0.mk (below_step bl hb); have n2_ := Aside0.mk (hbox); have n3_ := Aside0.mk ((by rw [hg]; exact (below_size bl) : w.heap.size ≤ gb225)); have n4_ := Aside0.mk ((by rw [hg]; exact (below_size bl) : w.heap.size ≤ gb225)); have n5_ := Aside0.mk ((by rw [hg]; exact Nat.ne_of_lt (blk_lt (g := gb224) (o := .cells #[.int .i64 0, .bool false, .string (⟨#[]⟩ : ByteArray), .string (⟨#[]⟩ : ByteArray)] 40 (0, 0)) bk) : gb224 ≠ gb225)); have n6_ := Aside0.mk ((by rw [hg]; exact Nat.ne_of_gt (blk_lt (g := gb224) (o := .cells #[.int .i64 0, .bool false, .string (⟨#[]⟩ : ByteArray), .string (⟨#[]⟩ : ByteArray)] 40 (0, 0)) bk) : gb225 ≠ gb224)); clear BK224; clear HB; have BK224 := n0_; have HB := n1_; have BK225 := n2_; have GW225 := n3_; have GE225 := n4_; have NB224_225 := n5_; have NB225_224 := n6_; clear n0_ n1_ n2_ n3_ n4_ n5_ n6_; clear hb hbox hg; have hnb23 := NB225_224.out; have hnc23 := NB224_225.out; have hcz24_0 : w22.cell? ⟨gb225, 0, none⟩ = some (.int .i64 0) := (blk_cell BK225.out 0).trans rfl; have hcz24_1 : w22.cell? ⟨gb225, 1, none⟩ = some (.bool false) := (blk_cell BK225.out 1).trans rfl; have hcz24_2 : w22.cell? ⟨gb225, 2, none⟩ = some (.string (⟨#[]⟩ : ByteArray)) := (blk_cell BK225.out 2).trans rfl; have hcz24_3 : w22.cell? ⟨gb225, 3, none⟩ = some (.string (⟨#[]⟩ : ByteArray)) := (blk_cell BK225.out 3).trans rfl; have hfz24_0 := blk_frozen BK225.out 0; have hfz24_1 := blk_frozen BK225.out 1; have hfz24_2 := blk_frozen BK225.out 2; have hfz24_3 := blk_frozen BK225.out 3))
    (try simp only [Act.put, List.setIfInBounds_toArray, List.set_cons_zero, List.set_cons_succ])
    go_cut [26] (fun v26 wc => ∃ (kq : Nat) (x26_19 : Bool), v26 = .bool x26_19 ∧ Aside0 (targumref4_Parse.j0 kq a0 x26_19 0 false (⟨#[]⟩ : ByteArray) (⟨#[]⟩ : ByteArray) = some (r1, r2, r3, r4, r5)) ∧ Aside0 (kq ≤ k) ∧ Aside0 (wc.heap[gb224]? = some (.cells #[.int .i64 0, .bool false, .string (⟨#[]⟩ : ByteArray), .string (⟨#[]⟩ : ByteArray)] 40 (0, 0))) ∧ Aside0 (wc.heap[gb225]? = some (.cells #[.int .i64 0, .bool false, .string (⟨#[]⟩ : ByteArray), .string (⟨#[]⟩ : ByteArray)] 40 (0, 0))) ∧ Aside0 (Below w.heap.size w wc))
    case first =>
     have H := HC20.out
     clear HC20
     by_cases c25 : (a0.size : Int) > 0
     ·rw [if_pos c25] at H
      have c25b0 : decide (0 < (a0.size : Int)) = true := decide_eq_true c25
      have c25b1 : decide (0 < a0.size) = true := decide_eq_true (by omega)
      clear c25
      (first | rw [c25b0] | (simp only [i64_w, i32_w]; rw [c25b0]) | skip)
      by_cases c26 : 0 < (a0.size : Int)
      ·rw [if_pos c26] at H
       have c26b0 : decide (0 < (a0.size : Int)) = true := decide_eq_true c26
       have c26b1 : decide (0 < a0.size) = true := decide_eq_true (by omega)
       clear c26
       have H' := Aside0.mk H
       clear H
       have p27 : 0 ≤ (0 : Int) := (by omega)
       have q27 : 0 < a0.size := (by have : (0 : Int) < (a0.size : Int) := of_decide_eq_true (by first | (with_reducible assumption) | assumption); omega)
       have hx27 : ∀ h : 0 < a0.size, ((a0[0]'h).toNat : Int) = bt a0 0 := bt_at a0 0
       clear p27
       have qi27 : (0 < (a0.size : Int)) = True := eq_true (of_decide_eq_true (by first | (with_reducible assumption) | assumption))
       replace q27 := eq_true q27
       go_wp2
       go_meet
       case rel => exact ⟨_, (((bt a0 0) == 45)), (by first | rfl | (simp; done) | (simp [*]; done) | (simp [wrap64]; done)), H', ⟨by first | omega | exact Nat.le_refl _⟩, ⟨by (with_reducible repeat (first | refine blk_drewN ?_ _ | refine blk_drew ?_ | refine blk_alloc ?_ _)); refine blk_far ?_ NB224_225.out _; (with_reducible repeat (first | refine blk_drewN ?_ _ | refine blk_drew ?_ | refine blk_alloc ?_ _)); refine blk_far ?_ NB224_225.out _; (with_reducible repeat (first | refine blk_drewN ?_ _ | refine blk_drew ?_ | refine blk_alloc ?_ _)); refine blk_far ?_ NB224_225.out _; (with_reducible repeat (first | refine blk_drewN ?_ _ | refine blk_drew ?_ | refine blk_alloc ?_ _)); refine blk_far ?_ NB224_225.out _; (with_reducible repeat (first | refine blk_drewN ?_ _ | refine blk_drew ?_ | refine blk_alloc ?_ _)); exact BK224.out⟩, ⟨by (with_reducible repeat (first | refine blk_drewN ?_ _ | refine blk_drew ?_ | refine blk_alloc ?_ _)); refine blk_put (cs := #[.int .i64 0, .bool false, .string (⟨#[]⟩ : ByteArray), .string (⟨#[]⟩ : ByteArray)]) ?_ 3 _ rfl; (with_reducible repeat (first | refine blk_drewN ?_ _ | refine blk_drew ?_ | refine blk_alloc ?_ _)); refine blk_put (cs := #[.int .i64 0, .bool false, .string (⟨#[]⟩ : ByteArray), .string (⟨#[]⟩ : ByteArray)]) ?_ 2 _ rfl; (with_reducible repeat (first | refine blk_drewN ?_ _ | refine blk_drew ?_ | refine blk_alloc ?_ _)); refine blk_put (cs := #[.int .i64 0, .bool false, .string (⟨#[]⟩ : ByteArray), .string (⟨#[]⟩ : ByteArray)]) ?_ 1 _ rfl; (with_reducible repeat (first | refine blk_drewN ?_ _ | refine blk_drew ?_ | refine blk_alloc ?_ _)); refine blk_put (cs := #[.int .i64 0, .bool false, .string (⟨#[]⟩ : ByteArray), .string (⟨#[]⟩ : ByteArray)]) ?_ 0 _ rfl; (with_reducible repeat (first | refine blk_drewN ?_ _ | refine blk_drew ?_ | refine blk_alloc ?_ _)); exact BK225.out⟩, ⟨bl⟩⟩
      ·rw [if_neg c26] at H
       exact absurd H (by simp)
     ·rw [if_neg c25] at H
      have c25b0 : decide (0 < (a0.size : Int)) = false := decide_eq_false c25
      have c25b1 : decide (0 < a0.size) = false := decide_eq_false (by omega)
      clear c25
      (first | rw [c25b0] | (simp only [i64_w, i32_w]; rw [c25b0]) | skip)
      have H' := Aside0.mk H
      clear H
      go_wp2
      go_meet
      case rel => exact ⟨_, (false), (by first | rfl | (simp; done) | (simp [*]; done) | (simp [wrap64]; done)), H', ⟨by first | omega | exact Nat.le_refl _⟩, ⟨by (with_reducible repeat (first | refine blk_drewN ?_ _ | refine blk_drew ?_ | refine blk_alloc ?_ _)); refine blk_far ?_ NB224_225.out _; (with_reducible repeat (first | refine blk_drewN ?_ _ | refine blk_drew ?_ | refine blk_alloc ?_ _)); refine blk_far ?_ NB224_225.out _; (with_reducible repeat (first | refine blk_drewN ?_ _ | refine blk_drew ?_ | refine blk_alloc ?_ _)); refine blk_far ?_ NB224_225.out _; (with_reducible repeat (first | refine blk_drewN ?_ _ | refine blk_drew ?_ | refine blk_alloc ?_ _)); refine blk_far ?_ NB224_225.out _; (with_reducible repeat (first | refine blk_drewN ?_ _ | refine blk_drew ?_ | refine blk_alloc ?_ _)); exact BK224.out⟩, ⟨by (with_reducible repeat (first | refine blk_drewN ?_ _ | refine blk_drew ?_ | refine blk_alloc ?_ _)); refine blk_put (cs := #[.int .i64 0, .bool false, .string (⟨#[]⟩ : ByteArray), .string (⟨#[]⟩ : ByteArray)]) ?_ 3 _ rfl; (with_reducible repeat (first | refine blk_drewN ?_ _ | refine blk_drew ?_ | refine blk_alloc ?_ _)); refine blk_put (cs := #[.int .i64 0, .bool false, .string (⟨#[]⟩ : ByteArray), .string (⟨#[]⟩ : ByteArray)]) ?_ 2 _ rfl; (with_reducible repeat (first | refine blk_drewN ?_ _ | refine blk_drew ?_ | refine blk_alloc ?_ _)); refine blk_put (cs := #[.int .i64 0, .bool false, .string (⟨#[]⟩ : ByteArray), .string (⟨#[]⟩ : ByteArray)]) ?_ 1 _ rfl; (with_reducible repeat (first | refine blk_drewN ?_ _ | refine blk_drew ?_ | refine blk_alloc ?_ _)); refine blk_put (cs := #[.int .i64 0, .bool false, .string (⟨#[]⟩ : ByteArray), .string (⟨#[]⟩ : ByteArray)]) ?_ 0 _ rfl; (with_reducible repeat (first | refine blk_drewN ?_ _ | refine blk_drew ?_ | refine blk_alloc ?_ _)); exact BK225.out⟩, ⟨bl⟩⟩
    case rest =>
     clear HC20
     try clear c1; try clear c2; try clear c2b0; try clear c2b1; try clear p2; try clear q2; try clear hx2; try clear qi2; try clear c3; try clear c5; try clear c8; try clear c8b0; try clear c8b1; try clear c11; try clear c14; try clear c14b0; try clear c14b1; try clear c17; try clear c23; try clear c25; try clear c25b0; try clear c25b1; try clear c26; try clear c26b0; try clear c26b1; try clear p27; try clear q27; try clear hx27; try clear qi27; try clear hcz12_0; try clear hcz12_1; try clear hcz12_2; try clear hcz12_3; try clear hcz13_0; try clear hcz13_1; try clear hcz13_2; try clear hcz13_3; try clear hcz18_0; try clear hcz18_1; try clear hcz18_2; try clear hcz18_3; try clear hcz19_0; try clear hcz19_1; try clear hcz19_2; try clear hcz19_3; try clear hcz24_0; try clear hcz24_1; try clear hcz24_2; try clear hcz24_3; try clear hcz6_0; try clear hcz6_1; try clear hcz6_2; try clear hcz6_3; try clear hcz7_0; try clear hcz7_1; try clear hcz7_2; try clear hcz7_3; try clear hfz12_0; try clear hfz12_1; try clear hfz12_2; try clear hfz12_3; try clear hfz13_0; try clear hfz13_1; try clear hfz13_2; try clear hfz13_3; try clear hfz18_0; try clear hfz18_1; try clear hfz18_2; try clear hfz18_3; try clear hfz19_0; try clear hfz19_1; try clear hfz19_2; try clear hfz19_3; try clear hfz24_0; try clear hfz24_1; try clear hfz24_2; try clear hfz24_3; try clear hfz6_0; try clear hfz6_1; try clear hfz6_2; try clear hfz6_3; try clear hfz7_0; try clear hfz7_1; try clear hfz7_2; try clear hfz7_3; try clear p27; try clear q27
     obtain ⟨kq, x26_19, rfl, HA, HJ19, BK224, BK225, HB⟩ := hcut
     cases kq with
     | zero => exact absurd HA.out (by simp [targumref4_Parse.j0])
     | succ kj19 =>
      have H := HA.out
      clear HA
      simp only [targumref4_Parse.j0] at H
      have HC28 := Aside0.mk H
      clear H
      go_upto_if 26 with (fail)
      go_cut [5] (fun v5 wc => ∃ (kq : Nat) (x5_27 : ByteArray) (x226001_27 : Bool), v5 = .string x5_27 ∧ Aside0 (targumref4_Parse.j1 kq x5_27 0 x226001_27 (⟨#[]⟩ : ByteArray) (⟨#[]⟩ : ByteArray) = some (r1, r2, r3, r4, r5)) ∧ Aside0 (kq ≤ kj19) ∧ Aside0 (wc.heap[gb224]? = some (.cells #[.int .i64 0, .bool false, .string (⟨#[]⟩ : ByteArray), .string (⟨#[]⟩ : ByteArray)] 40 (0, 0))) ∧ Aside0 (wc.heap[gb225]? = some (.cells #[.int .i64 0, .bool x226001_27, .string (⟨#[]⟩ : ByteArray), .string (⟨#[]⟩ : ByteArray)] 40 (0, 0))) ∧ Aside0 (Below w.heap.size w wc))
      case first =>
       have H := HC28.out
       clear HC28
       by_cases c29 : x26_19 = true
       ·subst c29
        have H1 : (if 1 ≤ (a0.size : Int) then (targumref4_Parse.j1 kj19 (a0.extract 1 a0.size) 0 true (⟨#[]⟩ : ByteArray) (⟨#[]⟩ : ByteArray)) else (none)) = some (r1, r2, r3, r4, r5) := by rw [if_pos rfl] at H; exact H
        clear H
        have H := H1
        clear H1
        by_cases c30 : 1 ≤ (a0.size : Int)
        ·rw [if_pos c30] at H
         have c30b0 := eq_true c30
         have c30b1 : decide (1 ≤ (a0.size : Int)) = true := decide_eq_true c30
         clear c30
         have H' := Aside0.mk H
         clear H
         try go_wp2
         have n0_ := Aside0.mk (blk_drew BK224.out)
         have n1_ := Aside0.mk (blk_drew BK225.out)
         have n2_ := Aside0.mk (below_drew1 HB.out)
         clear BK224
         clear BK225
         clear HB
         have BK224 := n0_
         have BK225 := n1_
         have HB := n2_
         clear n0_ n1_ n2_
         refine start_ (n := 5) (S := fun w' => True) (ds := []) #[false, false, false, false, false] (by kernel_rfl) rfl rfl trivial (fun hHeld => ?_)
         generalize wc.drew = w31 at BK224 BK225 HB hHeld ⊢
         refine pure_ (i := 0) (N := some 27) (v := ?_) (a' := ?_) #[true, false, false, false, false] rfl rfl (by kernel_rfl) (fun _ _ _ h => h) (Or.inl ⟨by rfl, ?_⟩) ?_ ?_
         rotate_left
         ·intro w'
          go_simp
          with_reducible rfl
         rotate_left
         ·simp only [Act.put, List.setIfInBounds_toArray, List.set_cons_zero, List.set_cons_succ, i64_w, i32_w]
          rfl
         refine pure_ (i := 1) (N := some 28) (v := ?_) (a' := ?_) #[true, true, false, false, false] rfl rfl (by kernel_rfl) (fun _ _ _ h => h) (Or.inl ⟨by rfl, ?_⟩) ?_ ?_
         rotate_left
         ·intro w'
          go_simp
          with_reducible rfl
         rotate_left
         ·simp only [Act.put, List.setIfInBounds_toArray, List.set_cons_zero, List.set_cons_succ, i64_w, i32_w]
          rfl
         refine pure_ (i := 2) (N := some 29) (v := ?_) (a' := ?_) #[true, true, true, false, false] rfl rfl (by kernel_rfl) (fun _ _ _ h => h) (Or.inl ⟨by rfl, ?_⟩) ?_ ?_
         rotate_left
         ·intro w'
          go_simp
          with_reducible rfl
         rotate_left
         ·simp only [Act.put, List.setIfInBounds_toArray, List.set_cons_zero, List.set_cons_succ, i64_w, i32_w]
          rfl
         refine one_ (i := 3) (N := none) #[true, true, true, true, false] rfl rfl (by kernel_rfl) (by decide) (fun K hK => ?_)
         have hs32 : w31.cell? ⟨gb225, 1, none⟩ = some (.bool false) := (blk_cell BK225.out 1).trans rfl
         have hfs32 := blk_frozen BK225.out 1
         have hns32_0 := NB224_225.out
         have hms32_0 := NB225_224.out
         refine skip_ (w1 := ?_) (by rfl) rfl ?_ ?_
         rotate_left
         ·go_simp
          rfl
         refine hK.out _ _ trivial (fun hHeld => ?_)
         clear hK K
         refine pure_ (i := 4) (N := some 5) (v := ?_) (a' := ?_) #[true, true, true, true, true] rfl rfl (by kernel_rfl) (fun _ _ _ h => h) (Or.inl ⟨by rfl, ?_⟩) ?_ ?_
         rotate_left
         ·intro w'
          go_simp
          with_reducible rfl
         rotate_left
         ·simp only [Act.put, List.setIfInBounds_toArray, List.set_cons_zero, List.set_cons_succ, i64_w, i32_w]
          rfl
         refine done_ (by kernel_rfl) ?_
         try go_wp2
         go_meet
         case rel => exact ⟨_, (a0.extract 1 a0.size), (true), (by first | rfl | (simp; done) | (simp [*]; done) | (simp [wrap64]; done)), H', ⟨by have := HJ19.out; first | omega | exact Nat.le_refl _⟩, ⟨by (with_reducible repeat (first | refine blk_drewN ?_ _ | refine blk_drew ?_ | refine blk_alloc ?_ _)); refine blk_far ?_ NB224_225.out _; (with_reducible repeat (first | refine blk_drewN ?_ _ | refine blk_drew ?_ | refine blk_alloc ?_ _)); exact BK224.out⟩, ⟨by (with_reducible repeat (first | refine blk_drewN ?_ _ | refine blk_drew ?_ | refine blk_alloc ?_ _)); refine blk_put (cs := #[.int .i64 0, .bool false, .string (⟨#[]⟩ : ByteArray), .string (⟨#[]⟩ : ByteArray)]) ?_ 1 _ rfl; (with_reducible repeat (first | refine blk_drewN ?_ _ | refine blk_drew ?_ | refine blk_alloc ?_ _)); exact BK225.out⟩, ⟨bl⟩⟩
        ·rw [if_neg c30] at H
         exact absurd H (by simp)
       ·replace c29 := Bool.eq_false_iff.mpr c29
        subst c29
        have H1 : (targumref4_Parse.j1 kj19 a0 0 false (⟨#[]⟩ : ByteArray) (⟨#[]⟩ : ByteArray)) = some (r1, r2, r3, r4, r5) := by rw [if_neg (show ¬ (false = true) by decide)] at H; exact H
        clear H
        have H := H1
        clear H1
        have H' := Aside0.mk H
        clear H
        go_wp2
        go_meet
        case rel => exact ⟨_, (a0), (false), (by first | rfl | (simp; done) | (simp [*]; done) | (simp [wrap64]; done)), H', ⟨by have := HJ19.out; first | omega | exact Nat.le_refl _⟩, ⟨by (with_reducible repeat (first | refine blk_drewN ?_ _ | refine blk_drew ?_ | refine blk_alloc ?_ _)); exact BK224.out⟩, ⟨by (with_reducible repeat (first | refine blk_drewN ?_ _ | refine blk_drew ?_ | refine blk_alloc ?_ _)); exact BK225.out⟩, ⟨bl⟩⟩
      case rest =>
       clear HC28
       try clear c1; try clear c2; try clear c2b0; try clear c2b1; try clear p2; try clear q2; try clear hx2; try clear qi2; try clear c3; try clear c5; try clear c8; try clear c8b0; try clear c8b1; try clear c11; try clear c14; try clear c14b0; try clear c14b1; try clear c17; try clear c23; try clear c25; try clear c25b0; try clear c25b1; try clear c26; try clear c26b0; try clear c26b1; try clear p27; try clear q27; try clear hx27; try clear qi27; try clear c29; try clear c30; try clear c30b0; try clear c30b1; try clear c32; try clear hcz12_0; try clear hcz12_1; try clear hcz12_2; try clear hcz12_3; try clear hcz13_0; try clear hcz13_1; try clear hcz13_2; try clear hcz13_3; try clear hcz18_0; try clear hcz18_1; try clear hcz18_2; try clear hcz18_3; try clear hcz19_0; try clear hcz19_1; try clear hcz19_2; try clear hcz19_3; try clear hcz24_0; try clear hcz24_1; try clear hcz24_2; try clear hcz24_3; try clear hcz6_0; try clear hcz6_1; try clear hcz6_2; try clear hcz6_3; try clear hcz7_0; try clear hcz7_1; try clear hcz7_2; try clear hcz7_3; try clear hfz12_0; try clear hfz12_1; try clear hfz12_2; try clear hfz12_3; try clear hfz13_0; try clear hfz13_1; try clear hfz13_2; try clear hfz13_3; try clear hfz18_0; try clear hfz18_1; try clear hfz18_2; try clear hfz18_3; try clear hfz19_0; try clear hfz19_1; try clear hfz19_2; try clear hfz19_3; try clear hfz24_0; try clear hfz24_1; try clear hfz24_2; try clear hfz24_3; try clear hfz6_0; try clear hfz6_1; try clear hfz6_2; try clear hfz6_3; try clear hfz7_0; try clear hfz7_1; try clear hfz7_2; try clear hfz7_3; try clear p2; try clear p27; try clear q2; try clear q27
       obtain ⟨kq, x5_27, x226001_27, rfl, HA, HJ27, BK224, BK225, HB⟩ := hcut
       cases kq with
       | zero => exact absurd HA.out (by simp [targumref4_Parse.j1])
       | succ kj27 =>
        have H := HA.out
        clear HA
        simp only [targumref4_Parse.j1] at H
        have HC33 := Aside0.mk H
        clear H
        go_upto_block 1 with (fail)
        go_cut [6] (fun v6 wc => ∃ (kq : Nat) (x6_32 : Int), v6 = .int .i64 x6_32 ∧ Aside0 (targumref4_Parse.j3 kq x5_27 x6_32 0 x226001_27 (⟨#[]⟩ : ByteArray) (⟨#[]⟩ : ByteArray) = some (r1, r2, r3, r4, r5)) ∧ Aside0 (kq ≤ kj27) ∧ Aside0 (wc.heap[gb224]? = some (.cells #[.int .i64 0, .bool false, .string (⟨#[]⟩ : ByteArray), .string (⟨#[]⟩ : ByteArray)] 40 (0, 0))) ∧ Aside0 (wc.heap[gb225]? = some (.cells #[.int .i64 0, .bool x226001_27, .string (⟨#[]⟩ : ByteArray), .string (⟨#[]⟩ : ByteArray)] 40 (0, 0))) ∧ Aside0 (Below w.heap.size w wc))
        case first =>
         have H := HC33.out
         clear HC33
         have H' := Aside0.mk H
         clear H
         go_wp2
         go_loopg [6] kj27 (fun kq v6 w' => ∃ (x6_3 : Int), v6 = .int .i64 x6_3 ∧ Aside0 (targumref4_Parse.l0 kq x5_27 x6_3 0 x226001_27 (⟨#[]⟩ : ByteArray) (⟨#[]⟩ : ByteArray) = some (r1, r2, r3, r4, r5)) ∧ Aside0 (kq ≤ kj27) ∧ Aside0 (w'.heap[gb224]? = some (.cells #[.int .i64 0, .bool false, .string (⟨#[]⟩ : ByteArray), .string (⟨#[]⟩ : ByteArray)] 40 (0, 0))) ∧ Aside0 (w'.heap[gb225]? = some (.cells #[.int .i64 0, .bool x226001_27, .string (⟨#[]⟩ : ByteArray), .string (⟨#[]⟩ : ByteArray)] 40 (0, 0))) ∧ Aside0 (Below w.heap.size w w'))
         case atStart => exact ⟨(0), (by first | rfl | (simp; done) | (simp [*]; done) | (simp [wrap64]; done)), H', ⟨Nat.le_refl _⟩, ⟨by (with_reducible repeat (first | refine blk_drewN ?_ _ | refine blk_drew ?_ | refine blk_alloc ?_ _)); exact BK224.out⟩, ⟨by (with_reducible repeat (first | refine blk_drewN ?_ _ | refine blk_drew ?_ | refine blk_alloc ?_ _)); exact BK225.out⟩, ⟨bl⟩⟩
         case round =>
          clear H'
          try clear c1; try clear c2; try clear c2b0; try clear c2b1; try clear p2; try clear q2; try clear hx2; try clear qi2; try clear c3; try clear c5; try clear c8; try clear c8b0; try clear c8b1; try clear c11; try clear c14; try clear c14b0; try clear c14b1; try clear c17; try clear c23; try clear c25; try clear c25b0; try clear c25b1; try clear c26; try clear c26b0; try clear c26b1; try clear p27; try clear q27; try clear hx27; try clear qi27; try clear c29; try clear c30; try clear c30b0; try clear c30b1; try clear c32; try clear hcz12_0; try clear hcz12_1; try clear hcz12_2; try clear hcz12_3; try clear hcz13_0; try clear hcz13_1; try clear hcz13_2; try clear hcz13_3; try clear hcz18_0; try clear hcz18_1; try clear hcz18_2; try clear hcz18_3; try clear hcz19_0; try clear hcz19_1; try clear hcz19_2; try clear hcz19_3; try clear hcz24_0; try clear hcz24_1; try clear hcz24_2; try clear hcz24_3; try clear hcz6_0; try clear hcz6_1; try clear hcz6_2; try clear hcz6_3; try clear hcz7_0; try clear hcz7_1; try clear hcz7_2; try clear hcz7_3; try clear hfz12_0; try clear hfz12_1; try clear hfz12_2; try clear hfz12_3; try clear hfz13_0; try clear hfz13_1; try clear hfz13_2; try clear hfz13_3; try clear hfz18_0; try clear hfz18_1; try clear hfz18_2; try clear hfz18_3; try clear hfz19_0; try clear hfz19_1; try clear hfz19_2; try clear hfz19_3; try clear hfz24_0; try clear hfz24_1; try clear hfz24_2; try clear hfz24_3; try clear hfz6_0; try clear hfz6_1; try clear hfz6_2; try clear hfz6_3; try clear hfz7_0; try clear hfz7_1; try clear hfz7_2; try clear hfz7_3; try clear p2; try clear p27; try clear q2; try clear q27
          obtain ⟨x6_3, rfl, HA, HK3, BK224, BK225, HB⟩ := hrel
          cases gk with
          | zero => exact absurd HA.out (by simp [targumref4_Parse.l0])
          | succ k3 =>
           have H := HA.out
           clear HA
           simp only [targumref4_Parse.l0] at H
           by_cases c34 : x6_3 < (x5_27.size : Int)
           ·rw [if_pos c34] at H
            have c34b0 : decide (x6_3 < (x5_27.size : Int)) = true := decide_eq_true c34
            clear c34
            (first | rw [c34b0] | (simp only [i64_w, i32_w]; rw [c34b0]) | skip)
            by_cases c35 : 0 ≤ x6_3
            ·rw [if_pos c35] at H
             have c35b0 : decide (0 ≤ x6_3) = true := decide_eq_true c35
             clear c35
             by_cases c37 : (bt x5_27 x6_3) = 46
             ·rw [if_pos c37] at H
              have c37b0 : ((bt x5_27 x6_3) == 46) = true := beq_iff_eq.mpr c37
              have c37b1 : ((bt x5_27 x6_3) != 46) = false := bne_eq_false_iff_eq.mpr c37
              clear c37
              have H' := Aside0.mk H
              clear H
              have p36 : 0 ≤ (x6_3 : Int) := of_decide_eq_true (by first | (with_reducible assumption) | assumption)
              have q36 : x6_3 < (x5_27.size : Int) := of_decide_eq_true (by first | (with_reducible assumption) | assumption)
              have hx36 := bt_at x5_27 x6_3
              replace p36 := eq_true p36
              replace q36 := eq_true q36
              go_wp2
              go_meet
              case rel => exact ⟨_, (x6_3), (by first | rfl | (simp; done) | (simp [*]; done) | (simp [wrap64]; done)), H', ⟨by have := HJ19.out; have := HJ27.out; have := HK3.out; first | omega | exact Nat.le_refl _⟩, ⟨by (with_reducible repeat (first | refine blk_drewN ?_ _ | refine blk_drew ?_ | refine blk_alloc ?_ _)); exact BK224.out⟩, ⟨by (with_reducible repeat (first | refine blk_drewN ?_ _ | refine blk_drew ?_ | refine blk_alloc ?_ _)); exact BK225.out⟩, ⟨bl⟩⟩
             ·rw [if_neg c37] at H
              have c37b0 : ((bt x5_27 x6_3) == 46) = false := beq_eq_false_iff_ne.mpr c37
              have c37b1 : ((bt x5_27 x6_3) != 46) = true := bne_iff_ne.mpr c37
              have H' := Aside0.mk H
              clear H
              have p36 : 0 ≤ (x6_3 : Int) := of_decide_eq_true (by first | (with_reducible assumption) | assumption)
              have q36 : x6_3 < (x5_27.size : Int) := of_decide_eq_true (by first | (with_reducible assumption) | assumption)
              have hx36 := bt_at x5_27 x6_3
              replace p36 := eq_true p36
              replace q36 := eq_true q36
              go_wp2
              go_roundg k3
              case measure => have := HJ19.out; have := HJ27.out; have := HK3.out; omega
              case rel => exact ⟨(wrap64 (x6_3 + 1)), (by first | rfl | (simp; done) | (simp [*]; done) | (simp [wrap64]; done)), H', ⟨by have := HJ19.out; have := HJ27.out; have := HK3.out; omega⟩, ⟨by (with_reducible repeat (first | refine blk_drewN ?_ _ | refine blk_drew ?_ | refine blk_alloc ?_ _)); exact BK224.out⟩, ⟨by (with_reducible repeat (first | refine blk_drewN ?_ _ | refine blk_drew ?_ | refine blk_alloc ?_ _)); exact BK225.out⟩, ⟨bl⟩⟩
            ·rw [if_neg c35] at H
             exact absurd H (by simp)
           ·rw [if_neg c34] at H
            have c34b0 : decide (x6_3 < (x5_27.size : Int)) = false := decide_eq_false c34
            clear c34
            (first | rw [c34b0] | (simp only [i64_w, i32_w]; rw [c34b0]) | skip)
            have H' := Aside0.mk H
            clear H
            go_wp2
            go_meet
            case rel => exact ⟨_, (x6_3), (by first | rfl | (simp; done) | (simp [*]; done) | (simp [wrap64]; done)), H', ⟨by have := HJ19.out; have := HJ27.out; have := HK3.out; first | omega | exact Nat.le_refl _⟩, ⟨by (with_reducible repeat (first | refine blk_drewN ?_ _ | refine blk_drew ?_ | refine blk_alloc ?_ _)); exact BK224.out⟩, ⟨by (with_reducible repeat (first | refine blk_drewN ?_ _ | refine blk_drew ?_ | refine blk_alloc ?_ _)); exact BK225.out⟩, ⟨bl⟩⟩
        case rest =>
         clear HC33
         try clear c1; try clear c2; try clear c2b0; try clear c2b1; try clear p2; try clear q2; try clear hx2; try clear qi2; try clear c3; try clear p3; try clear q3; try clear hx3; try clear c5; try clear p6; try clear c8; try clear c8b0; try clear c8b1; try clear c11; try clear c14; try clear c14b0; try clear c14b1; try clear c17; try clear c23; try clear c25; try clear c25b0; try clear c25b1; try clear c26; try clear c26b0; try clear c26b1; try clear p27; try clear q27; try clear hx27; try clear qi27; try clear c29; try clear c30; try clear c30b0; try clear c30b1; try clear c32; try clear c34; try clear c34b0; try clear c35; try clear c35b0; try clear p36; try clear q36; try clear hx36; try clear c37; try clear c37b0; try clear c37b1; try clear hcz12_0; try clear hcz12_1; try clear hcz12_2; try clear hcz12_3; try clear hcz13_0; try clear hcz13_1; try clear hcz13_2; try clear hcz13_3; try clear hcz18_0; try clear hcz18_1; try clear hcz18_2; try clear hcz18_3; try clear hcz19_0; try clear hcz19_1; try clear hcz19_2; try clear hcz19_3; try clear hcz24_0; try clear hcz24_1; try clear hcz24_2; try clear hcz24_3; try clear hcz6_0; try clear hcz6_1; try clear hcz6_2; try clear hcz6_3; try clear hcz7_0; try clear hcz7_1; try clear hcz7_2; try clear hcz7_3; try clear hfz12_0; try clear hfz12_1; try clear hfz12_2; try clear hfz12_3; try clear hfz13_0; try clear hfz13_1; try clear hfz13_2; try clear hfz13_3; try clear hfz18_0; try clear hfz18_1; try clear hfz18_2; try clear hfz18_3; try clear hfz19_0; try clear hfz19_1; try clear hfz19_2; try clear hfz19_3; try clear hfz24_0; try clear hfz24_1; try clear hfz24_2; try clear hfz24_3; try clear hfz6_0; try clear hfz6_1; try clear hfz6_2; try clear hfz6_3; try clear hfz7_0; try clear hfz7_1; try clear hfz7_2; try clear hfz7_3; try clear p2; try clear p27; try clear p36; try clear q2; try clear q27; try clear q36
         obtain ⟨kq, x6_32, rfl, HA, HJ32, BK224, BK225, HB⟩ := hcut
         cases kq with
         | zero => exact absurd HA.out (by simp [targumref4_Parse.j3])
         | succ kj32 =>
          have H := HA.out
          clear HA
          simp only [targumref4_Parse.j3] at H
          have HC38 := Aside0.mk H
          clear H
          go_upto_region 15 with (fail)
          go_cut [67] (fun v67 wc => ∃ (kq : Nat) (x67_37 : Bool), v67 = .bool x67_37 ∧ Aside0 (targumref4_Parse.j4 kq x5_27 x6_32 x67_37 0 x226001_27 (⟨#[]⟩ : ByteArray) (⟨#[]⟩ : ByteArray) = some (r1, r2, r3, r4, r5)) ∧ Aside0 (kq ≤ kj32) ∧ Aside0 (wc.heap[gb224]? = some (.cells #[.int .i64 0, .bool false, .string (⟨#[]⟩ : ByteArray), .string (⟨#[]⟩ : ByteArray)] 40 (0, 0))) ∧ Aside0 (wc.heap[gb225]? = some (.cells #[.int .i64 0, .bool x226001_27, .string (⟨#[]⟩ : ByteArray), .string (⟨#[]⟩ : ByteArray)] 40 (0, 0))) ∧ Aside0 (Below w.heap.size w wc))
          case first =>
           have H := HC38.out
           clear HC38
           by_cases c39 : (wrap64 ((x5_27.size : Int) - x6_32)) < 4
           ·rw [if_pos c39] at H
            have c39b0 : decide ((wrap64 ((x5_27.size : Int) - x6_32)) < 4) = true := decide_eq_true c39
            clear c39
            (first | rw [c39b0] | (simp only [i64_w, i32_w]; rw [c39b0]) | skip)
            have H' := Aside0.mk H
            clear H
            go_wp2
            go_meet
            case rel => exact ⟨_, (true), (by first | rfl | (simp; done) | (simp [*]; done) | (simp [wrap64]; done)), H', ⟨by have := HJ19.out; have := HJ27.out; have := HJ32.out; first | omega | exact Nat.le_refl _⟩, ⟨by (with_reducible repeat (first | refine blk_drewN ?_ _ | refine blk_drew ?_ | refine blk_alloc ?_ _)); exact BK224.out⟩, ⟨by (with_reducible repeat (first | refine blk_drewN ?_ _ | refine blk_drew ?_ | refine blk_alloc ?_ _)); exact BK225.out⟩, ⟨bl⟩⟩
           ·rw [if_neg c39] at H
            have c39b0 : decide ((wrap64 ((x5_27.size : Int) - x6_32)) < 4) = false := decide_eq_false c39
            clear c39
            (first | rw [c39b0] | (simp only [i64_w, i32_w]; rw [c39b0]) | skip)
            obtain ⟨ji40, hji40⟩ : ∃ j_ : Int, (wrap64 (x6_32 + 1)) = j_ := ⟨_, rfl⟩
            replace H : (if 0 ≤ (ji40) then (if (ji40) < (x5_27.size : Int) then (if (bt x5_27 (ji40)) = 101 then (if 0 ≤ (wrap64 (x6_32 + 2)) then (if (wrap64 (x6_32 + 2)) < (x5_27.size : Int) then (if (bt x5_27 (wrap64 (x6_32 + 2))) = 43 then (targumref4_Parse.j4 kj32 x5_27 x6_32 false 0 x226001_27 (⟨#[]⟩ : ByteArray) (⟨#[]⟩ : ByteArray)) else (targumref4_Parse.j4 kj32 x5_27 x6_32 ((bt x5_27 (wrap64 (x6_32 + 2))) != 45) 0 x226001_27 (⟨#[]⟩ : ByteArray) (⟨#[]⟩ : ByteArray))) else (none)) else (none)) else (targumref4_Parse.j4 kj32 x5_27 x6_32 true 0 x226001_27 (⟨#[]⟩ : ByteArray) (⟨#[]⟩ : ByteArray))) else (none)) else (none)) = some (r1, r2, r3, r4, r5) := by first | (rw [hji40] at H; exact H) | (simp only [hji40] at H ⊢; exact H)
            have hji40w : (IntKind.i64.wrap (x6_32 + 1)) = ji40 := (i64_w _).trans hji40
            by_cases c41 : 0 ≤ (ji40)
            ·rw [if_pos c41] at H
             have c41b0 : decide (0 ≤ (ji40)) = true := decide_eq_true c41
             clear c41
             by_cases c42 : (ji40) < (x5_27.size : Int)
             ·rw [if_pos c42] at H
              have c42b0 : decide ((ji40) < (x5_27.size : Int)) = true := decide_eq_true c42
              clear c42
              by_cases c44 : (bt x5_27 (ji40)) = 101
              ·rw [if_pos c44] at H
               have c44b0 : ((bt x5_27 (ji40)) == 101) = true := beq_iff_eq.mpr c44
               have c44b1 : ((bt x5_27 (ji40)) != 101) = false := bne_eq_false_iff_eq.mpr c44
               clear c44
               obtain ⟨ji45, hji45⟩ : ∃ j_ : Int, (wrap64 (x6_32 + 2)) = j_ := ⟨_, rfl⟩
               replace H : (if 0 ≤ (ji45) then (if (ji45) < (x5_27.size : Int) then (if (bt x5_27 (ji45)) = 43 then (targumref4_Parse.j4 kj32 x5_27 x6_32 false 0 x226001_27 (⟨#[]⟩ : ByteArray) (⟨#[]⟩ : ByteArray)) else (targumref4_Parse.j4 kj32 x5_27 x6_32 ((bt x5_27 (ji45)) != 45) 0 x226001_27 (⟨#[]⟩ : ByteArray) (⟨#[]⟩ : ByteArray))) else (none)) else (none)) = some (r1, r2, r3, r4, r5) := by first | (rw [hji45] at H; exact H) | (simp only [hji45] at H ⊢; exact H)
               have hji45w : (IntKind.i64.wrap (x6_32 + 2)) = ji45 := (i64_w _).trans hji45
               by_cases c46 : 0 ≤ (ji45)
               ·rw [if_pos c46] at H
                have c46b0 : decide (0 ≤ (ji45)) = true := decide_eq_true c46
                clear c46
                by_cases c47 : (ji45) < (x5_27.size : Int)
                ·rw [if_pos c47] at H
                 have c47b0 : decide ((ji45) < (x5_27.size : Int)) = true := decide_eq_true c47
                 clear c47
                 by_cases c49 : (bt x5_27 (ji45)) = 43
                 ·rw [if_pos c49] at H
                  have c49b0 : ((bt x5_27 (ji45)) == 43) = true := beq_iff_eq.mpr c49
                  have c49b1 : ((bt x5_27 (ji45)) != 43) = false := bne_eq_false_iff_eq.mpr c49
                  clear c49
                  have H' := Aside0.mk H
                  clear H
                  have p43 : 0 ≤ ((ji40) : Int) := of_decide_eq_true (by first | (with_reducible assumption) | assumption)
                  have q43 : (ji40) < (x5_27.size : Int) := of_decide_eq_true (by first | (with_reducible assumption) | assumption)
                  have hx43 := bt_at x5_27 (ji40)
                  replace p43 := eq_true p43
                  replace q43 := eq_true q43
                  have p48 : 0 ≤ ((ji45) : Int) := of_decide_eq_true (by first | (with_reducible assumption) | assumption)
                  have q48 : (ji45) < (x5_27.size : Int) := of_decide_eq_true (by first | (with_reducible assumption) | assumption)
                  have hx48 := bt_at x5_27 (ji45)
                  replace p48 := eq_true p48
                  replace q48 := eq_true q48
                  go_wp2
                  go_meet
                  case rel => exact ⟨_, (false), (by first | rfl | (simp; done) | (simp [*]; done) | (simp [wrap64]; done)), H', ⟨by have := HJ19.out; have := HJ27.out; have := HJ32.out; first | omega | exact Nat.le_refl _⟩, ⟨by (with_reducible repeat (first | refine blk_drewN ?_ _ | refine blk_drew ?_ | refine blk_alloc ?_ _)); exact BK224.out⟩, ⟨by (with_reducible repeat (first | refine blk_drewN ?_ _ | refine blk_drew ?_ | refine blk_alloc ?_ _)); exact BK225.out⟩, ⟨bl⟩⟩
                 ·rw [if_neg c49] at H
                  have c49b0 : ((bt x5_27 (ji45)) == 43) = false := beq_eq_false_iff_ne.mpr c49
                  have c49b1 : ((bt x5_27 (ji45)) != 43) = true := bne_iff_ne.mpr c49
                  have H' := Aside0.mk H
                  clear H
                  have p43 : 0 ≤ ((ji40) : Int) := of_decide_eq_true (by first | (with_reducible assumption) | assumption)
                  have q43 : (ji40) < (x5_27.size : Int) := of_decide_eq_true (by first | (with_reducible assumption) | assumption)
                  have hx43 := bt_at x5_27 (ji40)
                  replace p43 := eq_true p43
                  replace q43 := eq_true q43
                  have p48 : 0 ≤ ((ji45) : Int) := of_decide_eq_true (by first | (with_reducible assumption) | assumption)
                  have q48 : (ji45) < (x5_27.size : Int) := of_decide_eq_true (by first | (with_reducible assumption) | assumption)
                  have hx48 := bt_at x5_27 (ji45)
                  replace p48 := eq_true p48
                  replace q48 := eq_true q48
                  have p50 : 0 ≤ ((ji45) : Int) := of_decide_eq_true (by first | (with_reducible assumption) | assumption)
                  have q50 : (ji45) < (x5_27.size : Int) := of_decide_eq_true (by first | (with_reducible assumption) | assumption)
                  have hx50 := bt_at x5_27 (ji45)
                  replace p50 := eq_true p50
                  replace q50 := eq_true q50
                  go_wp2
                  go_meet
                  case rel => exact ⟨_, (((bt x5_27 (ji45)) != 45)), (by first | rfl | (simp; done) | (simp only [← hji45] <;> (first | rfl | simp)) | (simp [*]; done)), H', ⟨by have := HJ19.out; have := HJ27.out; have := HJ32.out; first | omega | exact Nat.le_refl _⟩, ⟨by (with_reducible repeat (first | refine blk_drewN ?_ _ | refine blk_drew ?_ | refine blk_alloc ?_ _)); exact BK224.out⟩, ⟨by (with_reducible repeat (first | refine blk_drewN ?_ _ | refine blk_drew ?_ | refine blk_alloc ?_ _)); exact BK225.out⟩, ⟨bl⟩⟩
                ·rw [if_neg c47] at H
                 exact absurd H (by simp)
               ·rw [if_neg c46] at H
                exact absurd H (by simp)
              ·rw [if_neg c44] at H
               have c44b0 : ((bt x5_27 (ji40)) == 101) = false := beq_eq_false_iff_ne.mpr c44
               have c44b1 : ((bt x5_27 (ji40)) != 101) = true := bne_iff_ne.mpr c44
               have H' := Aside0.mk H
               clear H
               have p43 : 0 ≤ ((ji40) : Int) := of_decide_eq_true (by first | (with_reducible assumption) | assumption)
               have q43 : (ji40) < (x5_27.size : Int) := of_decide_eq_true (by first | (with_reducible assumption) | assumption)
               have hx43 := bt_at x5_27 (ji40)
               replace p43 := eq_true p43
               replace q43 := eq_true q43
               go_wp2
               go_meet
               case rel => exact ⟨_, (true), (by first | rfl | (simp; done) | (simp [*]; done) | (simp [wrap64]; done)), H', ⟨by have := HJ19.out; have := HJ27.out; have := HJ32.out; first | omega | exact Nat.le_refl _⟩, ⟨by (with_reducible repeat (first | refine blk_drewN ?_ _ | refine blk_drew ?_ | refine blk_alloc ?_ _)); exact BK224.out⟩, ⟨by (with_reducible repeat (first | refine blk_drewN ?_ _ | refine blk_drew ?_ | refine blk_alloc ?_ _)); exact BK225.out⟩, ⟨bl⟩⟩
             ·rw [if_neg c42] at H
              exact absurd H (by simp)
            ·rw [if_neg c41] at H
             exact absurd H (by simp)
          case rest =>
           clear HC38
           try clear c1; try clear c2; try clear c2b0; try clear c2b1; try clear p2; try clear q2; try clear hx2; try clear qi2; try clear c3; try clear p3; try clear q3; try clear hx3; try clear c4; try clear p4; try clear q4; try clear hx4; try clear c5; try clear p5; try clear q5; try clear hx5; try clear p6; try clear c8; try clear c8b0; try clear c8b1; try clear c11; try clear c14; try clear c14b0; try clear c14b1; try clear c17; try clear c23; try clear c25; try clear c25b0; try clear c25b1; try clear c26; try clear c26b0; try clear c26b1; try clear p27; try clear q27; try clear hx27; try clear qi27; try clear c29; try clear c30; try clear c30b0; try clear c30b1; try clear c32; try clear c34; try clear c34b0; try clear c35; try clear c35b0; try clear p36; try clear q36; try clear hx36; try clear c37; try clear c37b0; try clear c37b1; try clear c39; try clear c39b0; try clear c41; try clear c41b0; try clear c42; try clear c42b0; try clear p43; try clear q43; try clear hx43; try clear c44; try clear c44b0; try clear c44b1; try clear c46; try clear c46b0; try clear c47; try clear c47b0; try clear p48; try clear q48; try clear hx48; try clear c49; try clear c49b0; try clear c49b1; try clear p50; try clear q50; try clear hx50; try clear hcz12_0; try clear hcz12_1; try clear hcz12_2; try clear hcz12_3; try clear hcz13_0; try clear hcz13_1; try clear hcz13_2; try clear hcz13_3; try clear hcz18_0; try clear hcz18_1; try clear hcz18_2; try clear hcz18_3; try clear hcz19_0; try clear hcz19_1; try clear hcz19_2; try clear hcz19_3; try clear hcz24_0; try clear hcz24_1; try clear hcz24_2; try clear hcz24_3; try clear hcz6_0; try clear hcz6_1; try clear hcz6_2; try clear hcz6_3; try clear hcz7_0; try clear hcz7_1; try clear hcz7_2; try clear hcz7_3; try clear hfz12_0; try clear hfz12_1; try clear hfz12_2; try clear hfz12_3; try clear hfz13_0; try clear hfz13_1; try clear hfz13_2; try clear hfz13_3; try clear hfz18_0; try clear hfz18_1; try clear hfz18_2; try clear hfz18_3; try clear hfz19_0; try clear hfz19_1; try clear hfz19_2; try clear hfz19_3; try clear hfz24_0; try clear hfz24_1; try clear hfz24_2; try clear hfz24_3; try clear hfz6_0; try clear hfz6_1; try clear hfz6_2; try clear hfz6_3; try clear hfz7_0; try clear hfz7_1; try clear hfz7_2; try clear hfz7_3; try clear p2; try clear p27; try clear p3; try clear p36; try clear p43; try clear p48; try clear p50; try clear p6; try clear q2; try clear q27; try clear q3; try clear q36; try clear q43; try clear q48; try clear q50
           obtain ⟨kq, x67_37, rfl, HA, HJ37, BK224, BK225, HB⟩ := hcut
           cases kq with
           | zero => exact absurd HA.out (by simp [targumref4_Parse.j4])
           | succ kj37 =>
            have H := HA.out
            clear HA
            simp only [targumref4_Parse.j4] at H
            by_cases c51 : x67_37 = true
            ·subst c51
             have H1 : (some (0, false, (⟨#[]⟩ : ByteArray), (⟨#[]⟩ : ByteArray), false)) = some (r1, r2, r3, r4, r5) := by rw [if_pos rfl] at H; exact H
             clear H
             have H := H1
             clear H1
             simp only [Option.some.injEq, Prod.mk.injEq] at H
             obtain ⟨rfl, rfl, rfl, rfl, rfl⟩ := H
             have hnb52 := NB224_225.out
             have hnc52 := NB225_224.out
             have hcz53_0 : wc.cell? ⟨gb224, 0, none⟩ = some (.int .i64 0) := (blk_cell BK224.out 0).trans rfl
             have hcz53_1 : wc.cell? ⟨gb224, 1, none⟩ = some (.bool false) := (blk_cell BK224.out 1).trans rfl
             have hcz53_2 : wc.cell? ⟨gb224, 2, none⟩ = some (.string (⟨#[]⟩ : ByteArray)) := (blk_cell BK224.out 2).trans rfl
             have hcz53_3 : wc.cell? ⟨gb224, 3, none⟩ = some (.string (⟨#[]⟩ : ByteArray)) := (blk_cell BK224.out 3).trans rfl
             have hfz53_0 := blk_frozen BK224.out 0
             have hfz53_1 := blk_frozen BK224.out 1
             have hfz53_2 := blk_frozen BK224.out 2
             have hfz53_3 := blk_frozen BK224.out 3
             go_wp2
             refine bodyPost_ret (results_ct rfl _ _ gb224 40 #[.int .i64 0, .bool false, .string (⟨#[]⟩ : ByteArray), .string (⟨#[]⟩ : ByteArray)] (0, 0) _ rfl bk Tryd.underlying40 rfl (by kernel_rfl)) rfl ?_
             exact ⟨by first | rfl | (simp [errW_none, errW_some] <;> rfl) | (simp [*, errW_none, errW_some] <;> rfl), bl⟩
            ·replace c51 := Bool.eq_false_iff.mpr c51
             subst c51
             have H1 : (if 0 ≤ x6_32 then (if x6_32 ≤ (x5_27.size : Int) then (if 0 ≤ (wrap64 (x6_32 + 2)) then (if (wrap64 (x6_32 + 2)) ≤ (x5_27.size : Int) then (if (wrap64 (x6_32 + 2)) < (x5_27.size : Int) then (if (bt x5_27 (wrap64 (x6_32 + 2))) = 43 then (if 0 ≤ (wrap64 (x6_32 + 3)) then (if (wrap64 (x6_32 + 3)) ≤ (x5_27.size : Int) then ((targumref4_Dec.f kj37 0 x226001_27 (x5_27.extract 0 (x6_32 : Int).toNat) (x5_27.extract ((wrap64 (x6_32 + 3)) : Int).toNat x5_27.size)).bind fun t226 => (if t226 = true then (if 0 < ((x5_27.extract ((wrap64 (x6_32 + 3)) : Int).toNat x5_27.size).size : Int) then (if (bt (x5_27.extract ((wrap64 (x6_32 + 3)) : Int).toNat x5_27.size) 0) = 45 then (some (0, false, (⟨#[]⟩ : ByteArray), (⟨#[]⟩ : ByteArray), false)) else (some (0, x226001_27, x5_27.extract 0 (x6_32 : Int).toNat, x5_27.extract ((wrap64 (x6_32 + 3)) : Int).toNat x5_27.size, true))) else (none)) else (some (0, false, (⟨#[]⟩ : ByteArray), (⟨#[]⟩ : ByteArray), false)))) else (none)) else (none)) else ((targumref4_Dec.f kj37 0 x226001_27 (x5_27.extract 0 (x6_32 : Int).toNat) (x5_27.extract ((wrap64 (x6_32 + 2)) : Int).toNat x5_27.size)).bind fun t227 => (if t227 = true then (some (0, x226001_27, x5_27.extract 0 (x6_32 : Int).toNat, x5_27.extract ((wrap64 (x6_32 + 2)) : Int).toNat x5_27.size, true)) else (some (0, false, (⟨#[]⟩ : ByteArray), (⟨#[]⟩ : ByteArray), false))))) else (none)) else (none)) else (none)) else (none)) else (none)) = some (r1, r2, r3, r4, r5) := by rw [if_neg (show ¬ (false = true) by decide)] at H; exact H
             clear H
             have H := H1
             clear H1
             by_cases c54 : 0 ≤ x6_32
             ·rw [if_pos c54] at H
              have c54b0 := eq_true c54
              have c54b1 : decide (0 ≤ x6_32) = true := decide_eq_true c54
              clear c54
              by_cases c55 : x6_32 ≤ (x5_27.size : Int)
              ·rw [if_pos c55] at H
               have c55b0 := eq_true c55
               have c55b1 : decide (x6_32 ≤ (x5_27.size : Int)) = true := decide_eq_true c55
               clear c55
               obtain ⟨ji56, hji56⟩ : ∃ j_ : Int, (wrap64 (x6_32 + 2)) = j_ := ⟨_, rfl⟩
               replace H : (if 0 ≤ (ji56) then (if (ji56) ≤ (x5_27.size : Int) then (if (ji56) < (x5_27.size : Int) then (if (bt x5_27 (ji56)) = 43 then (if 0 ≤ (wrap64 (x6_32 + 3)) then (if (wrap64 (x6_32 + 3)) ≤ (x5_27.size : Int) then ((targumref4_Dec.f kj37 0 x226001_27 (x5_27.extract 0 (x6_32 : Int).toNat) (x5_27.extract ((wrap64 (x6_32 + 3)) : Int).toNat x5_27.size)).bind fun t226 => (if t226 = true then (if 0 < ((x5_27.extract ((wrap64 (x6_32 + 3)) : Int).toNat x5_27.size).size : Int) then (if (bt (x5_27.extract ((wrap64 (x6_32 + 3)) : Int).toNat x5_27.size) 0) = 45 then (some (0, false, (⟨#[]⟩ : ByteArray), (⟨#[]⟩ : ByteArray), false)) else (some (0, x226001_27, x5_27.extract 0 (x6_32 : Int).toNat, x5_27.extract ((wrap64 (x6_32 + 3)) : Int).toNat x5_27.size, true))) else (none)) else (some (0, false, (⟨#[]⟩ : ByteArray), (⟨#[]⟩ : ByteArray), false)))) else (none)) else (none)) else ((targumref4_Dec.f kj37 0 x226001_27 (x5_27.extract 0 (x6_32 : Int).toNat) (x5_27.extract ((ji56) : Int).toNat x5_27.size)).bind fun t227 => (if t227 = true then (some (0, x226001_27, x5_27.extract 0 (x6_32 : Int).toNat, x5_27.extract ((ji56) : Int).toNat x5_27.size, true)) else (some (0, false, (⟨#[]⟩ : ByteArray), (⟨#[]⟩ : ByteArray), false))))) else (none)) else (none)) else (none)) = some (r1, r2, r3, r4, r5) := by first | (rw [hji56] at H; exact H) | (simp only [hji56] at H ⊢; exact H)
               have hji56w : (IntKind.i64.wrap (x6_32 + 2)) = ji56 := (i64_w _).trans hji56
               by_cases c57 : 0 ≤ (ji56)
               ·rw [if_pos c57] at H
                have c57b0 := eq_true c57
                have c57b1 : decide (0 ≤ (ji56)) = true := decide_eq_true c57
                clear c57
                by_cases c58 : (ji56) ≤ (x5_27.size : Int)
                ·rw [if_pos c58] at H
                 have c58b0 := eq_true c58
                 have c58b1 : decide ((ji56) ≤ (x5_27.size : Int)) = true := decide_eq_true c58
                 clear c58
                 by_cases c59 : (ji56) < (x5_27.size : Int)
                 ·rw [if_pos c59] at H
                  have c59b0 : decide ((ji56) < (x5_27.size : Int)) = true := decide_eq_true c59
                  clear c59
                  by_cases c61 : (bt x5_27 (ji56)) = 43
                  ·rw [if_pos c61] at H
                   have c61b0 : ((bt x5_27 (ji56)) == 43) = true := beq_iff_eq.mpr c61
                   have c61b1 : ((bt x5_27 (ji56)) != 43) = false := bne_eq_false_iff_eq.mpr c61
                   clear c61
                   obtain ⟨ji62, hji62⟩ : ∃ j_ : Int, (wrap64 (x6_32 + 3)) = j_ := ⟨_, rfl⟩
                   replace H : (if 0 ≤ (ji62) then (if (ji62) ≤ (x5_27.size : Int) then ((targumref4_Dec.f kj37 0 x226001_27 (x5_27.extract 0 (x6_32 : Int).toNat) (x5_27.extract ((ji62) : Int).toNat x5_27.size)).bind fun t226 => (if t226 = true then (if 0 < ((x5_27.extract ((ji62) : Int).toNat x5_27.size).size : Int) then (if (bt (x5_27.extract ((ji62) : Int).toNat x5_27.size) 0) = 45 then (some (0, false, (⟨#[]⟩ : ByteArray), (⟨#[]⟩ : ByteArray), false)) else (some (0, x226001_27, x5_27.extract 0 (x6_32 : Int).toNat, x5_27.extract ((ji62) : Int).toNat x5_27.size, true))) else (none)) else (some (0, false, (⟨#[]⟩ : ByteArray), (⟨#[]⟩ : ByteArray), false)))) else (none)) else (none)) = some (r1, r2, r3, r4, r5) := by first | (rw [hji62] at H; exact H) | (simp only [hji62] at H ⊢; exact H)
                   have hji62w : (IntKind.i64.wrap (x6_32 + 3)) = ji62 := (i64_w _).trans hji62
                   by_cases c63 : 0 ≤ (ji62)
                   ·rw [if_pos c63] at H
                    have c63b0 := eq_true c63
                    have c63b1 : decide (0 ≤ (ji62)) = true := decide_eq_true c63
                    clear c63
                    by_cases c64 : (ji62) ≤ (x5_27.size : Int)
                    ·rw [if_pos c64] at H
                     have c64b0 := eq_true c64
                     have c64b1 : decide ((ji62) ≤ (x5_27.size : Int)) = true := decide_eq_true c64
                     clear c64
                     replace H := Option.bind_eq_some_iff.mp H
                     obtain ⟨t226, A650, H⟩ := H
                     replace H : (if t226 = true then (if 0 < ((x5_27.extract ((ji62) : Int).toNat x5_27.size).size : Int) then (if (bt (x5_27.extract ((ji62) : Int).toNat x5_27.size) 0) = 45 then (some (0, false, (⟨#[]⟩ : ByteArray), (⟨#[]⟩ : ByteArray), false)) else (some (0, x226001_27, x5_27.extract 0 (x6_32 : Int).toNat, x5_27.extract ((ji62) : Int).toNat x5_27.size, true))) else (none)) else (some (0, false, (⟨#[]⟩ : ByteArray), (⟨#[]⟩ : ByteArray), false))) = some (r1, r2, r3, r4, r5) := H
                     have A65 := Aside0.mk A650
                     clear A650
                     by_cases c66 : t226 = true
                     ·subst c66
                      have H1 : (if 0 < ((x5_27.extract ((ji62) : Int).toNat x5_27.size).size : Int) then (if (bt (x5_27.extract ((ji62) : Int).toNat x5_27.size) 0) = 45 then (some (0, false, (⟨#[]⟩ : ByteArray), (⟨#[]⟩ : ByteArray), false)) else (some (0, x226001_27, x5_27.extract 0 (x6_32 : Int).toNat, x5_27.extract ((ji62) : Int).toNat x5_27.size, true))) else (none)) = some (r1, r2, r3, r4, r5) := by rw [if_pos rfl] at H; exact H
                      clear H
                      have H := H1
                      clear H1
                      by_cases c68 : 0 < ((x5_27.extract ((ji62) : Int).toNat x5_27.size).size : Int)
                      ·rw [if_pos c68] at H
                       have c68b0 : decide (0 < ((x5_27.extract ((ji62) : Int).toNat x5_27.size).size : Int)) = true := decide_eq_true c68
                       have c68b1 : decide (0 < (x5_27.extract ((ji62) : Int).toNat x5_27.size).size) = true := decide_eq_true (by omega)
                       (try (have c68b2 : decide (0 < x5_27.size - ((ji62) : Int).toNat) = true := decide_eq_true (by have h_ := c68; simp only [ByteArray.size_extract, Nat.min_self] at h_; omega)))
                       (try (have c68b3 : decide (0 < ((x5_27.size - ((ji62) : Int).toNat : Nat) : Int)) = true := decide_eq_true (by have h_ := c68; simp only [ByteArray.size_extract, Nat.min_self] at h_; omega)))
                       clear c68
                       by_cases c70 : (bt (x5_27.extract ((ji62) : Int).toNat x5_27.size) 0) = 45
                       ·rw [if_pos c70] at H
                        have c70b0 : ((bt (x5_27.extract ((ji62) : Int).toNat x5_27.size) 0) == 45) = true := beq_iff_eq.mpr c70
                        have c70b1 : ((bt (x5_27.extract ((ji62) : Int).toNat x5_27.size) 0) != 45) = false := bne_eq_false_iff_eq.mpr c70
                        clear c70
                        simp only [Option.some.injEq, Prod.mk.injEq] at H
                        obtain ⟨rfl, rfl, rfl, rfl, rfl⟩ := H
                        try go_wp2
                        have n0_ := Aside0.mk (blk_drew BK224.out)
                        have n1_ := Aside0.mk (blk_drew BK225.out)
                        have n2_ := Aside0.mk (below_drew1 HB.out)
                        clear BK224
                        clear BK225
                        clear HB
                        have BK224 := n0_
                        have BK225 := n1_
                        have HB := n2_
                        clear n0_ n1_ n2_
                        refine start_ (n := 11) (S := fun w' => True) (ds := []) #[false, false, false, false, false, false, false, false, false, false, false] (by kernel_rfl) rfl rfl trivial (fun hHeld => ?_); refine with_tabW targumref4_Parse.tab17 targumref4_Parse.bits17 (fun HT_ HW_ => ?_)
                        generalize wc.drew = w71 at BK224 BK225 HB hHeld ⊢
                        refine pure_ (i := 0) (N := some 69) (v := ?_) (a' := ?_) #[true, false, false, false, false, false, false, false, false, false, false] rfl rfl (any_of HT_.out (by kernel_rfl)) (fun _ _ _ h => h) (Or.inl ⟨by rfl, ?_⟩) ?_ ?_
                        rotate_left
                        ·intro w'
                         go_simp
                         with_reducible rfl
                        rotate_left
                        ·simp only [Act.put, List.setIfInBounds_toArray, List.set_cons_zero, List.set_cons_succ, i64_w, i32_w]
                         rfl
                        refine pure_ (i := 1) (N := some 70) (v := ?_) (a' := ?_) #[true, true, false, false, false, false, false, false, false, false, false] rfl rfl (any_of HT_.out (by kernel_rfl)) (fun _ _ _ h => h) (Or.inl ⟨by rfl, ?_⟩) ?_ ?_
                        rotate_left
                        ·intro w'
                         go_simp
                         with_reducible rfl
                        rotate_left
                        ·simp only [Act.put, List.setIfInBounds_toArray, List.set_cons_zero, List.set_cons_succ, i64_w, i32_w]
                         rfl
                        refine pure_ (i := 2) (N := some 71) (v := ?_) (a' := ?_) #[true, true, true, false, false, false, false, false, false, false, false] rfl rfl (any_of HT_.out (by kernel_rfl)) (fun _ _ _ h => h) (Or.inl ⟨by rfl, ?_⟩) ?_ ?_
                        rotate_left
                        ·intro w'
                         go_simp
                         with_reducible rfl
                        rotate_left
                        ·simp only [Act.put, List.setIfInBounds_toArray, List.set_cons_zero, List.set_cons_succ, i64_w, i32_w]
                         rfl
                        refine pure_ (i := 3) (N := some 72) (v := ?_) (a' := ?_) #[true, true, true, true, false, false, false, false, false, false, false] rfl rfl (any_of HT_.out (by kernel_rfl)) (fun _ _ _ h => h) (Or.inl ⟨by rfl, ?_⟩) ?_ ?_
                        rotate_left
                        ·intro w'
                         go_simp
                         with_reducible rfl
                        rotate_left
                        ·simp only [Act.put, List.setIfInBounds_toArray, List.set_cons_zero, List.set_cons_succ, i64_w, i32_w]
                         rfl
                        refine pure_ (i := 4) (N := some 73) (v := ?_) (a' := ?_) #[true, true, true, true, true, false, false, false, false, false, false] rfl rfl (any_of HT_.out (by kernel_rfl)) (fun _ _ _ h => h) (Or.inl ⟨by rfl, ?_⟩) ?_ ?_
                        rotate_left
                        ·intro w'
                         go_simp
                         with_reducible rfl
                        rotate_left
                        ·simp only [Act.put, List.setIfInBounds_toArray, List.set_cons_zero, List.set_cons_succ, i64_w, i32_w]
                         rfl
                        refine pure_ (i := 5) (N := some 74) (v := ?_) (a' := ?_) #[true, true, true, true, true, true, false, false, false, false, false] rfl rfl (any_of HT_.out (by kernel_rfl)) (fun _ _ _ h => h) (Or.inl ⟨by rfl, ?_⟩) ?_ ?_
                        rotate_left
                        ·intro w'
                         go_simp
                         with_reducible rfl
                        rotate_left
                        ·simp only [Act.put, List.setIfInBounds_toArray, List.set_cons_zero, List.set_cons_succ, i64_w, i32_w]
                         rfl
                        refine pure_ (i := 6) (N := some 75) (v := ?_) (a' := ?_) #[true, true, true, true, true, true, true, false, false, false, false] rfl rfl (any_of HT_.out (by kernel_rfl)) (fun _ _ _ h => h) (Or.inl ⟨by rfl, ?_⟩) ?_ ?_
                        rotate_left
                        ·intro w'
                         go_simp
                         with_reducible rfl
                        rotate_left
                        ·simp only [Act.put, List.setIfInBounds_toArray, List.set_cons_zero, List.set_cons_succ, i64_w, i32_w]
                         rfl
                        refine pure_ (i := 7) (N := some 76) (v := ?_) (a' := ?_) #[true, true, true, true, true, true, true, true, false, false, false] rfl rfl (any_of HT_.out (by kernel_rfl)) (fun _ _ _ h => h) (Or.inl ⟨by rfl, ?_⟩) ?_ ?_
                        rotate_left
                        ·intro w'
                         go_simp
                         with_reducible rfl
                        rotate_left
                        ·simp only [Act.put, List.setIfInBounds_toArray, List.set_cons_zero, List.set_cons_succ, i64_w, i32_w]
                         rfl
                        refine one_ (i := 8) (N := none) #[true, true, true, true, true, true, true, true, true, false, false] rfl rfl (one_of HT_.out (by kernel_rfl)) (by decide) (fun K hK => ?_)
                        have hs72 : w71.cell? ⟨gb225, 2, none⟩ = some (.string (⟨#[]⟩ : ByteArray)) := (blk_cell BK225.out 2).trans rfl
                        have hfs72 := blk_frozen BK225.out 2
                        have hns72_0 := NB224_225.out
                        have hms72_0 := NB225_224.out
                        refine skip_ (w1 := ?_) (by rfl) rfl ?_ ?_
                        rotate_left
                        ·go_simp
                         rfl
                        refine hK.out _ _ trivial (fun hHeld => ?_)
                        clear hK K
                        refine pure_ (i := 9) (N := some 77) (v := ?_) (a' := ?_) #[true, true, true, true, true, true, true, true, true, true, false] rfl rfl (any_of HT_.out (by kernel_rfl)) (fun _ _ _ h => h) (Or.inl ⟨by rfl, ?_⟩) ?_ ?_
                        rotate_left
                        ·intro w'
                         go_simp
                         with_reducible rfl
                        rotate_left
                        ·simp only [Act.put, List.setIfInBounds_toArray, List.set_cons_zero, List.set_cons_succ, i64_w, i32_w]
                         rfl
                        refine one_ (i := 10) (N := none) #[true, true, true, true, true, true, true, true, true, true, true] rfl rfl (one_of HT_.out (by kernel_rfl)) (by decide) (fun K hK => ?_)
                        have hs73 : w71.cell? ⟨gb225, 3, none⟩ = some (.string (⟨#[]⟩ : ByteArray)) := (blk_cell BK225.out 3).trans rfl
                        have hfs73 := blk_frozen BK225.out 3
                        have hns73_0 := NB224_225.out
                        have hms73_0 := NB225_224.out
                        refine skip_ (w1 := ?_) (by rfl) rfl ?_ ?_
                        rotate_left
                        ·go_simp
                         rfl
                        refine hK.out _ _ trivial (fun hHeld => ?_)
                        clear hK K
                        refine done_ (done_of HT_.out (by kernel_rfl)) ?_
                        have p60 : 0 ≤ ((ji56) : Int) := of_decide_eq_true (by first | (with_reducible assumption) | assumption)
                        have q60 : (ji56) < (x5_27.size : Int) := of_decide_eq_true (by first | (with_reducible assumption) | assumption)
                        have hx60 := bt_at x5_27 (ji56)
                        replace p60 := eq_true p60
                        replace q60 := eq_true q60
                        have hnb74 := NB225_224.out
                        have hnc74 := NB224_225.out
                        have hcz75_0 : w71.cell? ⟨gb225, 0, none⟩ = some (.int .i64 0) := (blk_cell BK225.out 0).trans rfl
                        have hcz75_1 : w71.cell? ⟨gb225, 1, none⟩ = some (.bool x226001_27) := (blk_cell BK225.out 1).trans rfl
                        have hcz75_2 : w71.cell? ⟨gb225, 2, none⟩ = some (.string (⟨#[]⟩ : ByteArray)) := (blk_cell BK225.out 2).trans rfl
                        have hcz75_3 : w71.cell? ⟨gb225, 3, none⟩ = some (.string (⟨#[]⟩ : ByteArray)) := (blk_cell BK225.out 3).trans rfl
                        have hfz75_0 := blk_frozen BK225.out 0
                        have hfz75_1 := blk_frozen BK225.out 1
                        have hfz75_2 := blk_frozen BK225.out 2
                        have hfz75_3 := blk_frozen BK225.out 3
                        try go_wp2_with (first | ((with_reducible refine gate_callee (f := 34) rfl ?_); refine goesL_ (some 89) rfl rfl Tryd.func34 (by kernel_rfl) rfl #[.agg #[.int .i64 0, .bool x226001_27, .string (x5_27.extract 0 (x6_32 : Int).toNat), .string (x5_27.extract ((ji62) : Int).toNat x5_27.size)]] rfl (by (try simp only [List.map_toArray, List.map_cons, List.map_nil]); first | done | (simp only [hji62]; rfl) | rfl | (simp only [List.length_drop, List.length_take]; rfl)) ?_; (with_reducible refine (targumref4_Dec.calls kj37 0 x226001_27 (x5_27.extract 0 (x6_32 : Int).toNat) (x5_27.extract ((ji62) : Int).toNat x5_27.size) true _ A65.out).mono ?_); rintro e w76 ⟨rfl, hb⟩; refine ⟨_, rfl, ?_⟩; have n0_ := Aside0.mk (blk_below (g := gb224) (o := .cells #[.int .i64 0, .bool false, .string (⟨#[]⟩ : ByteArray), .string (⟨#[]⟩ : ByteArray)] 40 (0, 0)) bk hb); have n1_ := Aside0.mk (blk_below (g := gb225) (o := .cells #[.int .i64 0, .bool x226001_27, .string (x5_27.extract 0 (x6_32 : Int).toNat), .string (x5_27.extract ((ji62) : Int).toNat x5_27.size)] 40 (0, 0)) bk hb); have n2_ := Aside0.mk (below_step bl hb); clear BK224; clear BK225; clear HB; have BK224 := n0_; have BK225 := n1_; have HB := n2_; clear n0_ n1_ n2_; (try clear hb); (try clear hb2); (try clear hk); (try clear hi); have p67 : 0 ≤ ((ji56) : Int) := of_decide_eq_true (by first | (with_reducible assumption) | assumption); have q67 : (ji56) < (x5_27.size : Int) := of_decide_eq_true (by first | (with_reducible assumption) | assumption); have hx67 := bt_at x5_27 (ji56); replace p67 := eq_true p67; replace q67 := eq_true q67; have hcz77_0 : w76.cell? ⟨gb225, 0, none⟩ = some (.int .i64 0) := (blk_cell BK225.out 0).trans rfl; have hcz77_1 : w76.cell? ⟨gb225, 1, none⟩ = some (.bool x226001_27) := (blk_cell BK225.out 1).trans rfl; have hcz77_2 : w76.cell? ⟨gb225, 2, none⟩ = some (.string (x5_27.extract 0 (x6_32 : Int).toNat)) := (blk_cell BK225.out 2).trans rfl; have hcz77_3 : w76.cell? ⟨gb225, 3, none⟩ = some (.string (x5_27.extract ((ji62) : Int).toNat x5_27.size)) := (blk_cell BK225.out 3).trans rfl; have hfz77_0 := blk_frozen BK225.out 0; have hfz77_1 := blk_frozen BK225.out 1; have hfz77_2 := blk_frozen BK225.out 2; have hfz77_3 := blk_frozen BK225.out 3; have p69 : 0 ≤ (0 : Int) := (by omega); have q69 : 0 < (x5_27.extract ((ji62) : Int).toNat x5_27.size).size := (by have : (0 : Int) < ((x5_27.extract ((ji62) : Int).toNat x5_27.size).size : Int) := of_decide_eq_true (by first | (with_reducible assumption) | assumption); omega); have hx69 : ∀ h : 0 < (x5_27.extract ((ji62) : Int).toNat x5_27.size).size, (((x5_27.extract ((ji62) : Int).toNat x5_27.size)[0]'h).toNat : Int) = bt (x5_27.extract ((ji62) : Int).toNat x5_27.size) 0 := bt_at (x5_27.extract ((ji62) : Int).toNat x5_27.size) 0; clear p69; have qi69 : (0 < ((x5_27.extract ((ji62) : Int).toNat x5_27.size).size : Int)) = True := eq_true (of_decide_eq_true (by first | (with_reducible assumption) | assumption)); replace q69 := eq_true q69; (try have qe69 : (0 < x5_27.size - ((ji62) : Int).toNat) = True := eq_true (by have h_ := of_eq_true qi69; simp only [ByteArray.size_extract, Nat.min_self] at h_; omega)); have hcz78_0 : w76.cell? ⟨gb224, 0, none⟩ = some (.int .i64 0) := (blk_cell BK224.out 0).trans rfl; have hcz78_1 : w76.cell? ⟨gb224, 1, none⟩ = some (.bool false) := (blk_cell BK224.out 1).trans rfl; have hcz78_2 : w76.cell? ⟨gb224, 2, none⟩ = some (.string (⟨#[]⟩ : ByteArray)) := (blk_cell BK224.out 2).trans rfl; have hcz78_3 : w76.cell? ⟨gb224, 3, none⟩ = some (.string (⟨#[]⟩ : ByteArray)) := (blk_cell BK224.out 3).trans rfl; have hfz78_0 := blk_frozen BK224.out 0; have hfz78_1 := blk_frozen BK224.out 1; have hfz78_2 := blk_frozen BK224.out 2; have hfz78_3 := blk_frozen BK224.out 3))
                        refine bodyPost_ret (results_ct rfl _ _ gb224 40 #[.int .i64 0, .bool false, .string (⟨#[]⟩ : ByteArray), .string (⟨#[]⟩ : ByteArray)] (0, 0) _ rfl bk Tryd.underlying40 rfl (by kernel_rfl)) rfl ?_
                        exact ⟨by first | rfl | (simp [errW_none, errW_some] <;> rfl) | (simp only [← hji56, ← hji62]; first | rfl | (simp [errW_none, errW_some] <;> rfl)) | (simp [*, errW_none, errW_some] <;> rfl), bl⟩
                       ·rw [if_neg c70] at H
                        have c70b0 : ((bt (x5_27.extract ((ji62) : Int).toNat x5_27.size) 0) == 45) = false := beq_eq_false_iff_ne.mpr c70
                        have c70b1 : ((bt (x5_27.extract ((ji62) : Int).toNat x5_27.size) 0) != 45) = true := bne_iff_ne.mpr c70
                        simp only [Option.some.injEq, Prod.mk.injEq] at H
                        obtain ⟨rfl, rfl, rfl, rfl, rfl⟩ := H
                        try go_wp2
                        have n0_ := Aside0.mk (blk_drew BK224.out)
                        have n1_ := Aside0.mk (blk_drew BK225.out)
                        have n2_ := Aside0.mk (below_drew1 HB.out)
                        clear BK224
                        clear BK225
                        clear HB
                        have BK224 := n0_
                        have BK225 := n1_
                        have HB := n2_
                        clear n0_ n1_ n2_
                        refine start_ (n := 11) (S := fun w' => True) (ds := []) #[false, false, false, false, false, false, false, false, false, false, false] (by kernel_rfl) rfl rfl trivial (fun hHeld => ?_); refine with_tabW targumref4_Parse.tab17 targumref4_Parse.bits17 (fun HT_ HW_ => ?_)
                        generalize wc.drew = w79 at BK224 BK225 HB hHeld ⊢
                        refine pure_ (i := 0) (N := some 69) (v := ?_) (a' := ?_) #[true, false, false, false, false, false, false, false, false, false, false] rfl rfl (any_of HT_.out (by kernel_rfl)) (fun _ _ _ h => h) (Or.inl ⟨by rfl, ?_⟩) ?_ ?_
                        rotate_left
                        ·intro w'
                         go_simp
                         with_reducible rfl
                        rotate_left
                        ·simp only [Act.put, List.setIfInBounds_toArray, List.set_cons_zero, List.set_cons_succ, i64_w, i32_w]
                         rfl
                        refine pure_ (i := 1) (N := some 70) (v := ?_) (a' := ?_) #[true, true, false, false, false, false, false, false, false, false, false] rfl rfl (any_of HT_.out (by kernel_rfl)) (fun _ _ _ h => h) (Or.inl ⟨by rfl, ?_⟩) ?_ ?_
                        rotate_left
                        ·intro w'
                         go_simp
                         with_reducible rfl
                        rotate_left
                        ·simp only [Act.put, List.setIfInBounds_toArray, List.set_cons_zero, List.set_cons_succ, i64_w, i32_w]
                         rfl
                        refine pure_ (i := 2) (N := some 71) (v := ?_) (a' := ?_) #[true, true, true, false, false, false, false, false, false, false, false] rfl rfl (any_of HT_.out (by kernel_rfl)) (fun _ _ _ h => h) (Or.inl ⟨by rfl, ?_⟩) ?_ ?_
                        rotate_left
                        ·intro w'
                         go_simp
                         with_reducible rfl
                        rotate_left
                        ·simp only [Act.put, List.setIfInBounds_toArray, List.set_cons_zero, List.set_cons_succ, i64_w, i32_w]
                         rfl
                        refine pure_ (i := 3) (N := some 72) (v := ?_) (a' := ?_) #[true, true, true, true, false, false, false, false, false, false, false] rfl rfl (any_of HT_.out (by kernel_rfl)) (fun _ _ _ h => h) (Or.inl ⟨by rfl, ?_⟩) ?_ ?_
                        rotate_left
                        ·intro w'
                         go_simp
                         with_reducible rfl
                        rotate_left
                        ·simp only [Act.put, List.setIfInBounds_toArray, List.set_cons_zero, List.set_cons_succ, i64_w, i32_w]
                         rfl
                        refine pure_ (i := 4) (N := some 73) (v := ?_) (a' := ?_) #[true, true, true, true, true, false, false, false, false, false, false] rfl rfl (any_of HT_.out (by kernel_rfl)) (fun _ _ _ h => h) (Or.inl ⟨by rfl, ?_⟩) ?_ ?_
                        rotate_left
                        ·intro w'
                         go_simp
                         with_reducible rfl
                        rotate_left
                        ·simp only [Act.put, List.setIfInBounds_toArray, List.set_cons_zero, List.set_cons_succ, i64_w, i32_w]
                         rfl
                        refine pure_ (i := 5) (N := some 74) (v := ?_) (a' := ?_) #[true, true, true, true, true, true, false, false, false, false, false] rfl rfl (any_of HT_.out (by kernel_rfl)) (fun _ _ _ h => h) (Or.inl ⟨by rfl, ?_⟩) ?_ ?_
                        rotate_left
                        ·intro w'
                         go_simp
                         with_reducible rfl
                        rotate_left
                        ·simp only [Act.put, List.setIfInBounds_toArray, List.set_cons_zero, List.set_cons_succ, i64_w, i32_w]
                         rfl
                        refine pure_ (i := 6) (N := some 75) (v := ?_) (a' := ?_) #[true, true, true, true, true, true, true, false, false, false, false] rfl rfl (any_of HT_.out (by kernel_rfl)) (fun _ _ _ h => h) (Or.inl ⟨by rfl, ?_⟩) ?_ ?_
                        rotate_left
                        ·intro w'
                         go_simp
                         with_reducible rfl
                        rotate_left
                        ·simp only [Act.put, List.setIfInBounds_toArray, List.set_cons_zero, List.set_cons_succ, i64_w, i32_w]
                         rfl
                        refine pure_ (i := 7) (N := some 76) (v := ?_) (a' := ?_) #[true, true, true, true, true, true, true, true, false, false, false] rfl rfl (any_of HT_.out (by kernel_rfl)) (fun _ _ _ h => h) (Or.inl ⟨by rfl, ?_⟩) ?_ ?_
                        rotate_left
                        ·intro w'
                         go_simp
                         with_reducible rfl
                        rotate_left
                        ·simp only [Act.put, List.setIfInBounds_toArray, List.set_cons_zero, List.set_cons_succ, i64_w, i32_w]
                         rfl
                        refine one_ (i := 8) (N := none) #[true, true, true, true, true, true, true, true, true, false, false] rfl rfl (one_of HT_.out (by kernel_rfl)) (by decide) (fun K hK => ?_)
                        have hs80 : w79.cell? ⟨gb225, 2, none⟩ = some (.string (⟨#[]⟩ : ByteArray)) := (blk_cell BK225.out 2).trans rfl
                        have hfs80 := blk_frozen BK225.out 2
                        have hns80_0 := NB224_225.out
                        have hms80_0 := NB225_224.out
                        refine skip_ (w1 := ?_) (by rfl) rfl ?_ ?_
                        rotate_left
                        ·go_simp
                         rfl
                        refine hK.out _ _ trivial (fun hHeld => ?_)
                        clear hK K
                        refine pure_ (i := 9) (N := some 77) (v := ?_) (a' := ?_) #[true, true, true, true, true, true, true, true, true, true, false] rfl rfl (any_of HT_.out (by kernel_rfl)) (fun _ _ _ h => h) (Or.inl ⟨by rfl, ?_⟩) ?_ ?_
                        rotate_left
                        ·intro w'
                         go_simp
                         with_reducible rfl
                        rotate_left
                        ·simp only [Act.put, List.setIfInBounds_toArray, List.set_cons_zero, List.set_cons_succ, i64_w, i32_w]
                         rfl
                        refine one_ (i := 10) (N := none) #[true, true, true, true, true, true, true, true, true, true, true] rfl rfl (one_of HT_.out (by kernel_rfl)) (by decide) (fun K hK => ?_)
                        have hs81 : w79.cell? ⟨gb225, 3, none⟩ = some (.string (⟨#[]⟩ : ByteArray)) := (blk_cell BK225.out 3).trans rfl
                        have hfs81 := blk_frozen BK225.out 3
                        have hns81_0 := NB224_225.out
                        have hms81_0 := NB225_224.out
                        refine skip_ (w1 := ?_) (by rfl) rfl ?_ ?_
                        rotate_left
                        ·go_simp
                         rfl
                        refine hK.out _ _ trivial (fun hHeld => ?_)
                        clear hK K
                        refine done_ (done_of HT_.out (by kernel_rfl)) ?_
                        have p60 : 0 ≤ ((ji56) : Int) := of_decide_eq_true (by first | (with_reducible assumption) | assumption)
                        have q60 : (ji56) < (x5_27.size : Int) := of_decide_eq_true (by first | (with_reducible assumption) | assumption)
                        have hx60 := bt_at x5_27 (ji56)
                        replace p60 := eq_true p60
                        replace q60 := eq_true q60
                        have hnb82 := NB225_224.out
                        have hnc82 := NB224_225.out
                        have hcz83_0 : w79.cell? ⟨gb225, 0, none⟩ = some (.int .i64 0) := (blk_cell BK225.out 0).trans rfl
                        have hcz83_1 : w79.cell? ⟨gb225, 1, none⟩ = some (.bool x226001_27) := (blk_cell BK225.out 1).trans rfl
                        have hcz83_2 : w79.cell? ⟨gb225, 2, none⟩ = some (.string (⟨#[]⟩ : ByteArray)) := (blk_cell BK225.out 2).trans rfl
                        have hcz83_3 : w79.cell? ⟨gb225, 3, none⟩ = some (.string (⟨#[]⟩ : ByteArray)) := (blk_cell BK225.out 3).trans rfl
                        have hfz83_0 := blk_frozen BK225.out 0
                        have hfz83_1 := blk_frozen BK225.out 1
                        have hfz83_2 := blk_frozen BK225.out 2
                        have hfz83_3 := blk_frozen BK225.out 3
                        try go_wp2_with (first | ((with_reducible refine gate_callee (f := 34) rfl ?_); refine goesL_ (some 89) rfl rfl Tryd.func34 (by kernel_rfl) rfl #[.agg #[.int .i64 0, .bool x226001_27, .string (x5_27.extract 0 (x6_32 : Int).toNat), .string (x5_27.extract ((ji62) : Int).toNat x5_27.size)]] rfl (by (try simp only [List.map_toArray, List.map_cons, List.map_nil]); first | done | (simp only [hji62]; rfl) | rfl | (simp only [List.length_drop, List.length_take]; rfl)) ?_; (with_reducible refine (targumref4_Dec.calls kj37 0 x226001_27 (x5_27.extract 0 (x6_32 : Int).toNat) (x5_27.extract ((ji62) : Int).toNat x5_27.size) true _ A65.out).mono ?_); rintro e w84 ⟨rfl, hb⟩; refine ⟨_, rfl, ?_⟩; have n0_ := Aside0.mk (blk_below (g := gb224) (o := .cells #[.int .i64 0, .bool false, .string (⟨#[]⟩ : ByteArray), .string (⟨#[]⟩ : ByteArray)] 40 (0, 0)) bk hb); have n1_ := Aside0.mk (blk_below (g := gb225) (o := .cells #[.int .i64 0, .bool x226001_27, .string (x5_27.extract 0 (x6_32 : Int).toNat), .string (x5_27.extract ((ji62) : Int).toNat x5_27.size)] 40 (0, 0)) bk hb); have n2_ := Aside0.mk (below_step bl hb); clear BK224; clear BK225; clear HB; have BK224 := n0_; have BK225 := n1_; have HB := n2_; clear n0_ n1_ n2_; (try clear hb); (try clear hb2); (try clear hk); (try clear hi); have p67 : 0 ≤ ((ji56) : Int) := of_decide_eq_true (by first | (with_reducible assumption) | assumption); have q67 : (ji56) < (x5_27.size : Int) := of_decide_eq_true (by first | (with_reducible assumption) | assumption); have hx67 := bt_at x5_27 (ji56); replace p67 := eq_true p67; replace q67 := eq_true q67; have hcz85_0 : w84.cell? ⟨gb225, 0, none⟩ = some (.int .i64 0) := (blk_cell BK225.out 0).trans rfl; have hcz85_1 : w84.cell? ⟨gb225, 1, none⟩ = some (.bool x226001_27) := (blk_cell BK225.out 1).trans rfl; have hcz85_2 : w84.cell? ⟨gb225, 2, none⟩ = some (.string (x5_27.extract 0 (x6_32 : Int).toNat)) := (blk_cell BK225.out 2).trans rfl; have hcz85_3 : w84.cell? ⟨gb225, 3, none⟩ = some (.string (x5_27.extract ((ji62) : Int).toNat x5_27.size)) := (blk_cell BK225.out 3).trans rfl; have hfz85_0 := blk_frozen BK225.out 0; have hfz85_1 := blk_frozen BK225.out 1; have hfz85_2 := blk_frozen BK225.out 2; have hfz85_3 := blk_frozen BK225.out 3; have p69 : 0 ≤ (0 : Int) := (by omega); have q69 : 0 < (x5_27.extract ((ji62) : Int).toNat x5_27.size).size := (by have : (0 : Int) < ((x5_27.extract ((ji62) : Int).toNat x5_27.size).size : Int) := of_decide_eq_true (by first | (with_reducible assumption) | assumption); omega); have hx69 : ∀ h : 0 < (x5_27.extract ((ji62) : Int).toNat x5_27.size).size, (((x5_27.extract ((ji62) : Int).toNat x5_27.size)[0]'h).toNat : Int) = bt (x5_27.extract ((ji62) : Int).toNat x5_27.size) 0 := bt_at (x5_27.extract ((ji62) : Int).toNat x5_27.size) 0; clear p69; have qi69 : (0 < ((x5_27.extract ((ji62) : Int).toNat x5_27.size).size : Int)) = True := eq_true (of_decide_eq_true (by first | (with_reducible assumption) | assumption)); replace q69 := eq_true q69; (try have qe69 : (0 < x5_27.size - ((ji62) : Int).toNat) = True := eq_true (by have h_ := of_eq_true qi69; simp only [ByteArray.size_extract, Nat.min_self] at h_; omega)); have hcz86_0 : w84.cell? ⟨gb224, 0, none⟩ = some (.int .i64 0) := (blk_cell BK224.out 0).trans rfl; have hcz86_1 : w84.cell? ⟨gb224, 1, none⟩ = some (.bool false) := (blk_cell BK224.out 1).trans rfl; have hcz86_2 : w84.cell? ⟨gb224, 2, none⟩ = some (.string (⟨#[]⟩ : ByteArray)) := (blk_cell BK224.out 2).trans rfl; have hcz86_3 : w84.cell? ⟨gb224, 3, none⟩ = some (.string (⟨#[]⟩ : ByteArray)) := (blk_cell BK224.out 3).trans rfl; have hfz86_0 := blk_frozen BK224.out 0; have hfz86_1 := blk_frozen BK224.out 1; have hfz86_2 := blk_frozen BK224.out 2; have hfz86_3 := blk_frozen BK224.out 3))
                        refine bodyPost_ret (results_ct rfl _ _ gb224 40 #[.int .i64 0, .bool x226001_27, .string (x5_27.extract 0 (x6_32 : Int).toNat), .string (x5_27.extract ((ji62) : Int).toNat x5_27.size)] (0, 0) _ rfl bk Tryd.underlying40 rfl (by kernel_rfl)) rfl ?_
                        exact ⟨by first | rfl | (simp [errW_none, errW_some] <;> rfl) | (simp only [← hji56, ← hji62]; first | rfl | (simp [errW_none, errW_some] <;> rfl)) | (simp [*, errW_none, errW_some] <;> rfl), bl⟩
                      ·rw [if_neg c68] at H
                       exact absurd H (by simp)
                     ·replace c66 := Bool.eq_false_iff.mpr c66
                      subst c66
                      have H1 : (some (0, false, (⟨#[]⟩ : ByteArray), (⟨#[]⟩ : ByteArray), false)) = some (r1, r2, r3, r4, r5) := by rw [if_neg (show ¬ (false = true) by decide)] at H; exact H
                      clear H
                      have H := H1
                      clear H1
                      simp only [Option.some.injEq, Prod.mk.injEq] at H
                      obtain ⟨rfl, rfl, rfl, rfl, rfl⟩ := H
                      try go_wp2
                      have n0_ := Aside0.mk (blk_drew BK224.out)
                      have n1_ := Aside0.mk (blk_drew BK225.out)
                      have n2_ := Aside0.mk (below_drew1 HB.out)
                      clear BK224
                      clear BK225
                      clear HB
                      have BK224 := n0_
                      have BK225 := n1_
                      have HB := n2_
                      clear n0_ n1_ n2_
                      refine start_ (n := 11) (S := fun w' => True) (ds := []) #[false, false, false, false, false, false, false, false, false, false, false] (by kernel_rfl) rfl rfl trivial (fun hHeld => ?_); refine with_tabW targumref4_Parse.tab17 targumref4_Parse.bits17 (fun HT_ HW_ => ?_)
                      generalize wc.drew = w87 at BK224 BK225 HB hHeld ⊢
                      refine pure_ (i := 0) (N := some 69) (v := ?_) (a' := ?_) #[true, false, false, false, false, false, false, false, false, false, false] rfl rfl (any_of HT_.out (by kernel_rfl)) (fun _ _ _ h => h) (Or.inl ⟨by rfl, ?_⟩) ?_ ?_
                      rotate_left
                      ·intro w'
                       go_simp
                       with_reducible rfl
                      rotate_left
                      ·simp only [Act.put, List.setIfInBounds_toArray, List.set_cons_zero, List.set_cons_succ, i64_w, i32_w]
                       rfl
                      refine pure_ (i := 1) (N := some 70) (v := ?_) (a' := ?_) #[true, true, false, false, false, false, false, false, false, false, false] rfl rfl (any_of HT_.out (by kernel_rfl)) (fun _ _ _ h => h) (Or.inl ⟨by rfl, ?_⟩) ?_ ?_
                      rotate_left
                      ·intro w'
                       go_simp
                       with_reducible rfl
                      rotate_left
                      ·simp only [Act.put, List.setIfInBounds_toArray, List.set_cons_zero, List.set_cons_succ, i64_w, i32_w]
                       rfl
                      refine pure_ (i := 2) (N := some 71) (v := ?_) (a' := ?_) #[true, true, true, false, false, false, false, false, false, false, false] rfl rfl (any_of HT_.out (by kernel_rfl)) (fun _ _ _ h => h) (Or.inl ⟨by rfl, ?_⟩) ?_ ?_
                      rotate_left
                      ·intro w'
                       go_simp
                       with_reducible rfl
                      rotate_left
                      ·simp only [Act.put, List.setIfInBounds_toArray, List.set_cons_zero, List.set_cons_succ, i64_w, i32_w]
                       rfl
                      refine pure_ (i := 3) (N := some 72) (v := ?_) (a' := ?_) #[true, true, true, true, false, false, false, false, false, false, false] rfl rfl (any_of HT_.out (by kernel_rfl)) (fun _ _ _ h => h) (Or.inl ⟨by rfl, ?_⟩) ?_ ?_
                      rotate_left
                      ·intro w'
                       go_simp
                       with_reducible rfl
                      rotate_left
                      ·simp only [Act.put, List.setIfInBounds_toArray, List.set_cons_zero, List.set_cons_succ, i64_w, i32_w]
                       rfl
                      refine pure_ (i := 4) (N := some 73) (v := ?_) (a' := ?_) #[true, true, true, true, true, false, false, false, false, false, false] rfl rfl (any_of HT_.out (by kernel_rfl)) (fun _ _ _ h => h) (Or.inl ⟨by rfl, ?_⟩) ?_ ?_
                      rotate_left
                      ·intro w'
                       go_simp
                       with_reducible rfl
                      rotate_left
                      ·simp only [Act.put, List.setIfInBounds_toArray, List.set_cons_zero, List.set_cons_succ, i64_w, i32_w]
                       rfl
                      refine pure_ (i := 5) (N := some 74) (v := ?_) (a' := ?_) #[true, true, true, true, true, true, false, false, false, false, false] rfl rfl (any_of HT_.out (by kernel_rfl)) (fun _ _ _ h => h) (Or.inl ⟨by rfl, ?_⟩) ?_ ?_
                      rotate_left
                      ·intro w'
                       go_simp
                       with_reducible rfl
                      rotate_left
                      ·simp only [Act.put, List.setIfInBounds_toArray, List.set_cons_zero, List.set_cons_succ, i64_w, i32_w]
                       rfl
                      refine pure_ (i := 6) (N := some 75) (v := ?_) (a' := ?_) #[true, true, true, true, true, true, true, false, false, false, false] rfl rfl (any_of HT_.out (by kernel_rfl)) (fun _ _ _ h => h) (Or.inl ⟨by rfl, ?_⟩) ?_ ?_
                      rotate_left
                      ·intro w'
                       go_simp
                       with_reducible rfl
                      rotate_left
                      ·simp only [Act.put, List.setIfInBounds_toArray, List.set_cons_zero, List.set_cons_succ, i64_w, i32_w]
                       rfl
                      refine pure_ (i := 7) (N := some 76) (v := ?_) (a' := ?_) #[true, true, true, true, true, true, true, true, false, false, false] rfl rfl (any_of HT_.out (by kernel_rfl)) (fun _ _ _ h => h) (Or.inl ⟨by rfl, ?_⟩) ?_ ?_
                      rotate_left
                      ·intro w'
                       go_simp
                       with_reducible rfl
                      rotate_left
                      ·simp only [Act.put, List.setIfInBounds_toArray, List.set_cons_zero, List.set_cons_succ, i64_w, i32_w]
                       rfl
                      refine one_ (i := 8) (N := none) #[true, true, true, true, true, true, true, true, true, false, false] rfl rfl (one_of HT_.out (by kernel_rfl)) (by decide) (fun K hK => ?_)
                      have hs88 : w87.cell? ⟨gb225, 2, none⟩ = some (.string (⟨#[]⟩ : ByteArray)) := (blk_cell BK225.out 2).trans rfl
                      have hfs88 := blk_frozen BK225.out 2
                      have hns88_0 := NB224_225.out
                      have hms88_0 := NB225_224.out
                      refine skip_ (w1 := ?_) (by rfl) rfl ?_ ?_
                      rotate_left
                      ·go_simp
                       rfl
                      refine hK.out _ _ trivial (fun hHeld => ?_)
                      clear hK K
                      refine pure_ (i := 9) (N := some 77) (v := ?_) (a' := ?_) #[true, true, true, true, true, true, true, true, true, true, false] rfl rfl (any_of HT_.out (by kernel_rfl)) (fun _ _ _ h => h) (Or.inl ⟨by rfl, ?_⟩) ?_ ?_
                      rotate_left
                      ·intro w'
                       go_simp
                       with_reducible rfl
                      rotate_left
                      ·simp only [Act.put, List.setIfInBounds_toArray, List.set_cons_zero, List.set_cons_succ, i64_w, i32_w]
                       rfl
                      refine one_ (i := 10) (N := none) #[true, true, true, true, true, true, true, true, true, true, true] rfl rfl (one_of HT_.out (by kernel_rfl)) (by decide) (fun K hK => ?_)
                      have hs89 : w87.cell? ⟨gb225, 3, none⟩ = some (.string (⟨#[]⟩ : ByteArray)) := (blk_cell BK225.out 3).trans rfl
                      have hfs89 := blk_frozen BK225.out 3
                      have hns89_0 := NB224_225.out
                      have hms89_0 := NB225_224.out
                      refine skip_ (w1 := ?_) (by rfl) rfl ?_ ?_
                      rotate_left
                      ·go_simp
                       rfl
                      refine hK.out _ _ trivial (fun hHeld => ?_)
                      clear hK K
                      refine done_ (done_of HT_.out (by kernel_rfl)) ?_
                      have p60 : 0 ≤ ((ji56) : Int) := of_decide_eq_true (by first | (with_reducible assumption) | assumption)
                      have q60 : (ji56) < (x5_27.size : Int) := of_decide_eq_true (by first | (with_reducible assumption) | assumption)
                      have hx60 := bt_at x5_27 (ji56)
                      replace p60 := eq_true p60
                      replace q60 := eq_true q60
                      have hnb90 := NB225_224.out
                      have hnc90 := NB224_225.out
                      have hcz91_0 : w87.cell? ⟨gb225, 0, none⟩ = some (.int .i64 0) := (blk_cell BK225.out 0).trans rfl
                      have hcz91_1 : w87.cell? ⟨gb225, 1, none⟩ = some (.bool x226001_27) := (blk_cell BK225.out 1).trans rfl
                      have hcz91_2 : w87.cell? ⟨gb225, 2, none⟩ = some (.string (⟨#[]⟩ : ByteArray)) := (blk_cell BK225.out 2).trans rfl
                      have hcz91_3 : w87.cell? ⟨gb225, 3, none⟩ = some (.string (⟨#[]⟩ : ByteArray)) := (blk_cell BK225.out 3).trans rfl
                      have hfz91_0 := blk_frozen BK225.out 0
                      have hfz91_1 := blk_frozen BK225.out 1
                      have hfz91_2 := blk_frozen BK225.out 2
                      have hfz91_3 := blk_frozen BK225.out 3
                      try go_wp2_with (first | ((with_reducible refine gate_callee (f := 34) rfl ?_); refine goesL_ (some 89) rfl rfl Tryd.func34 (by kernel_rfl) rfl #[.agg #[.int .i64 0, .bool x226001_27, .string (x5_27.extract 0 (x6_32 : Int).toNat), .string (x5_27.extract ((ji62) : Int).toNat x5_27.size)]] rfl (by (try simp only [List.map_toArray, List.map_cons, List.map_nil]); first | done | (simp only [hji62]; rfl) | rfl | (simp only [List.length_drop, List.length_take]; rfl)) ?_; (with_reducible refine (targumref4_Dec.calls kj37 0 x226001_27 (x5_27.extract 0 (x6_32 : Int).toNat) (x5_27.extract ((ji62) : Int).toNat x5_27.size) false _ A65.out).mono ?_); rintro e w92 ⟨rfl, hb⟩; refine ⟨_, rfl, ?_⟩; have n0_ := Aside0.mk (blk_below (g := gb224) (o := .cells #[.int .i64 0, .bool false, .string (⟨#[]⟩ : ByteArray), .string (⟨#[]⟩ : ByteArray)] 40 (0, 0)) bk hb); have n1_ := Aside0.mk (blk_below (g := gb225) (o := .cells #[.int .i64 0, .bool x226001_27, .string (x5_27.extract 0 (x6_32 : Int).toNat), .string (x5_27.extract ((ji62) : Int).toNat x5_27.size)] 40 (0, 0)) bk hb); have n2_ := Aside0.mk (below_step bl hb); clear BK224; clear BK225; clear HB; have BK224 := n0_; have BK225 := n1_; have HB := n2_; clear n0_ n1_ n2_; (try clear hb); (try clear hb2); (try clear hk); (try clear hi); have hcz93_0 : w92.cell? ⟨gb224, 0, none⟩ = some (.int .i64 0) := (blk_cell BK224.out 0).trans rfl; have hcz93_1 : w92.cell? ⟨gb224, 1, none⟩ = some (.bool false) := (blk_cell BK224.out 1).trans rfl; have hcz93_2 : w92.cell? ⟨gb224, 2, none⟩ = some (.string (⟨#[]⟩ : ByteArray)) := (blk_cell BK224.out 2).trans rfl; have hcz93_3 : w92.cell? ⟨gb224, 3, none⟩ = some (.string (⟨#[]⟩ : ByteArray)) := (blk_cell BK224.out 3).trans rfl; have hfz93_0 := blk_frozen BK224.out 0; have hfz93_1 := blk_frozen BK224.out 1; have hfz93_2 := blk_frozen BK224.out 2; have hfz93_3 := blk_frozen BK224.out 3))
                      refine bodyPost_ret (results_ct rfl _ _ gb224 40 #[.int .i64 0, .bool false, .string (⟨#[]⟩ : ByteArray), .string (⟨#[]⟩ : ByteArray)] (0, 0) _ rfl bk Tryd.underlying40 rfl (by kernel_rfl)) rfl ?_
                      exact ⟨by first | rfl | (simp [errW_none, errW_some] <;> rfl) | (simp only [← hji56, ← hji62]; first | rfl | (simp [errW_none, errW_some] <;> rfl)) | (simp [*, errW_none, errW_some] <;> rfl), bl⟩
                    ·rw [if_neg c64] at H
                     exact absurd H (by simp)
                   ·rw [if_neg c63] at H
                    exact absurd H (by simp)
                  ·rw [if_neg c61] at H
                   have c61b0 : ((bt x5_27 (ji56)) == 43) = false := beq_eq_false_iff_ne.mpr c61
                   have c61b1 : ((bt x5_27 (ji56)) != 43) = true := bne_iff_ne.mpr c61
                   replace H := Option.bind_eq_some_iff.mp H
                   obtain ⟨t227, A940, H⟩ := H
                   replace H : (if t227 = true then (some (0, x226001_27, x5_27.extract 0 (x6_32 : Int).toNat, x5_27.extract ((ji56) : Int).toNat x5_27.size, true)) else (some (0, false, (⟨#[]⟩ : ByteArray), (⟨#[]⟩ : ByteArray), false))) = some (r1, r2, r3, r4, r5) := H
                   have A94 := Aside0.mk A940
                   clear A940
                   by_cases c95 : t227 = true
                   ·subst c95
                    have H1 : (some (0, x226001_27, x5_27.extract 0 (x6_32 : Int).toNat, x5_27.extract ((ji56) : Int).toNat x5_27.size, true)) = some (r1, r2, r3, r4, r5) := by rw [if_pos rfl] at H; exact H
                    clear H
                    have H := H1
                    clear H1
                    simp only [Option.some.injEq, Prod.mk.injEq] at H
                    obtain ⟨rfl, rfl, rfl, rfl, rfl⟩ := H
                    try go_wp2
                    have n0_ := Aside0.mk (blk_drew BK224.out)
                    have n1_ := Aside0.mk (blk_drew BK225.out)
                    have n2_ := Aside0.mk (below_drew1 HB.out)
                    clear BK224
                    clear BK225
                    clear HB
                    have BK224 := n0_
                    have BK225 := n1_
                    have HB := n2_
                    clear n0_ n1_ n2_
                    refine start_ (n := 11) (S := fun w' => True) (ds := []) #[false, false, false, false, false, false, false, false, false, false, false] (by kernel_rfl) rfl rfl trivial (fun hHeld => ?_); refine with_tabW targumref4_Parse.tab17 targumref4_Parse.bits17 (fun HT_ HW_ => ?_)
                    generalize wc.drew = w97 at BK224 BK225 HB hHeld ⊢
                    refine pure_ (i := 0) (N := some 69) (v := ?_) (a' := ?_) #[true, false, false, false, false, false, false, false, false, false, false] rfl rfl (any_of HT_.out (by kernel_rfl)) (fun _ _ _ h => h) (Or.inl ⟨by rfl, ?_⟩) ?_ ?_
                    rotate_left
                    ·intro w'
                     go_simp
                     with_reducible rfl
                    rotate_left
                    ·simp only [Act.put, List.setIfInBounds_toArray, List.set_cons_zero, List.set_cons_succ, i64_w, i32_w]
                     rfl
                    refine pure_ (i := 1) (N := some 70) (v := ?_) (a' := ?_) #[true, true, false, false, false, false, false, false, false, false, false] rfl rfl (any_of HT_.out (by kernel_rfl)) (fun _ _ _ h => h) (Or.inl ⟨by rfl, ?_⟩) ?_ ?_
                    rotate_left
                    ·intro w'
                     go_simp
                     with_reducible rfl
                    rotate_left
                    ·simp only [Act.put, List.setIfInBounds_toArray, List.set_cons_zero, List.set_cons_succ, i64_w, i32_w]
                     rfl
                    refine pure_ (i := 2) (N := some 71) (v := ?_) (a' := ?_) #[true, true, true, false, false, false, false, false, false, false, false] rfl rfl (any_of HT_.out (by kernel_rfl)) (fun _ _ _ h => h) (Or.inl ⟨by rfl, ?_⟩) ?_ ?_
                    rotate_left
                    ·intro w'
                     go_simp
                     with_reducible rfl
                    rotate_left
                    ·simp only [Act.put, List.setIfInBounds_toArray, List.set_cons_zero, List.set_cons_succ, i64_w, i32_w]
                     rfl
                    refine pure_ (i := 3) (N := some 72) (v := ?_) (a' := ?_) #[true, true, true, true, false, false, false, false, false, false, false] rfl rfl (any_of HT_.out (by kernel_rfl)) (fun _ _ _ h => h) (Or.inl ⟨by rfl, ?_⟩) ?_ ?_
                    rotate_left
                    ·intro w'
                     go_simp
                     with_reducible rfl
                    rotate_left
                    ·simp only [Act.put, List.setIfInBounds_toArray, List.set_cons_zero, List.set_cons_succ, i64_w, i32_w]
                     rfl
                    refine pure_ (i := 4) (N := some 73) (v := ?_) (a' := ?_) #[true, true, true, true, true, false, false, false, false, false, false] rfl rfl (any_of HT_.out (by kernel_rfl)) (fun _ _ _ h => h) (Or.inl ⟨by rfl, ?_⟩) ?_ ?_
                    rotate_left
                    ·intro w'
                     go_simp
                     with_reducible rfl
                    rotate_left
                    ·simp only [Act.put, List.setIfInBounds_toArray, List.set_cons_zero, List.set_cons_succ, i64_w, i32_w]
                     rfl
                    refine pure_ (i := 5) (N := some 74) (v := ?_) (a' := ?_) #[true, true, true, true, true, true, false, false, false, false, false] rfl rfl (any_of HT_.out (by kernel_rfl)) (fun _ _ _ h => h) (Or.inl ⟨by rfl, ?_⟩) ?_ ?_
                    rotate_left
                    ·intro w'
                     go_simp
                     with_reducible rfl
                    rotate_left
                    ·simp only [Act.put, List.setIfInBounds_toArray, List.set_cons_zero, List.set_cons_succ, i64_w, i32_w]
                     rfl
                    refine pure_ (i := 6) (N := some 75) (v := ?_) (a' := ?_) #[true, true, true, true, true, true, true, false, false, false, false] rfl rfl (any_of HT_.out (by kernel_rfl)) (fun _ _ _ h => h) (Or.inl ⟨by rfl, ?_⟩) ?_ ?_
                    rotate_left
                    ·intro w'
                     go_simp
                     with_reducible rfl
                    rotate_left
                    ·simp only [Act.put, List.setIfInBounds_toArray, List.set_cons_zero, List.set_cons_succ, i64_w, i32_w]
                     rfl
                    refine pure_ (i := 7) (N := some 76) (v := ?_) (a' := ?_) #[true, true, true, true, true, true, true, true, false, false, false] rfl rfl (any_of HT_.out (by kernel_rfl)) (fun _ _ _ h => h) (Or.inl ⟨by rfl, ?_⟩) ?_ ?_
                    rotate_left
                    ·intro w'
                     go_simp
                     with_reducible rfl
                    rotate_left
                    ·simp only [Act.put, List.setIfInBounds_toArray, List.set_cons_zero, List.set_cons_succ, i64_w, i32_w]
                     rfl
                    refine one_ (i := 8) (N := none) #[true, true, true, true, true, true, true, true, true, false, false] rfl rfl (one_of HT_.out (by kernel_rfl)) (by decide) (fun K hK => ?_)
                    have hs98 : w97.cell? ⟨gb225, 2, none⟩ = some (.string (⟨#[]⟩ : ByteArray)) := (blk_cell BK225.out 2).trans rfl
                    have hfs98 := blk_frozen BK225.out 2
                    have hns98_0 := NB224_225.out
                    have hms98_0 := NB225_224.out
                    refine skip_ (w1 := ?_) (by rfl) rfl ?_ ?_
                    rotate_left
                    ·go_simp
                     rfl
                    refine hK.out _ _ trivial (fun hHeld => ?_)
                    clear hK K
                    refine pure_ (i := 9) (N := some 77) (v := ?_) (a' := ?_) #[true, true, true, true, true, true, true, true, true, true, false] rfl rfl (any_of HT_.out (by kernel_rfl)) (fun _ _ _ h => h) (Or.inl ⟨by rfl, ?_⟩) ?_ ?_
                    rotate_left
                    ·intro w'
                     go_simp
                     with_reducible rfl
                    rotate_left
                    ·simp only [Act.put, List.setIfInBounds_toArray, List.set_cons_zero, List.set_cons_succ, i64_w, i32_w]
                     rfl
                    refine one_ (i := 10) (N := none) #[true, true, true, true, true, true, true, true, true, true, true] rfl rfl (one_of HT_.out (by kernel_rfl)) (by decide) (fun K hK => ?_)
                    have hs99 : w97.cell? ⟨gb225, 3, none⟩ = some (.string (⟨#[]⟩ : ByteArray)) := (blk_cell BK225.out 3).trans rfl
                    have hfs99 := blk_frozen BK225.out 3
                    have hns99_0 := NB224_225.out
                    have hms99_0 := NB225_224.out
                    refine skip_ (w1 := ?_) (by rfl) rfl ?_ ?_
                    rotate_left
                    ·go_simp
                     rfl
                    refine hK.out _ _ trivial (fun hHeld => ?_)
                    clear hK K
                    refine done_ (done_of HT_.out (by kernel_rfl)) ?_
                    have p60 : 0 ≤ ((ji56) : Int) := of_decide_eq_true (by first | (with_reducible assumption) | assumption)
                    have q60 : (ji56) < (x5_27.size : Int) := of_decide_eq_true (by first | (with_reducible assumption) | assumption)
                    have hx60 := bt_at x5_27 (ji56)
                    replace p60 := eq_true p60
                    replace q60 := eq_true q60
                    have hnb100 := NB225_224.out
                    have hnc100 := NB224_225.out
                    have hcz101_0 : w97.cell? ⟨gb225, 0, none⟩ = some (.int .i64 0) := (blk_cell BK225.out 0).trans rfl
                    have hcz101_1 : w97.cell? ⟨gb225, 1, none⟩ = some (.bool x226001_27) := (blk_cell BK225.out 1).trans rfl
                    have hcz101_2 : w97.cell? ⟨gb225, 2, none⟩ = some (.string (⟨#[]⟩ : ByteArray)) := (blk_cell BK225.out 2).trans rfl
                    have hcz101_3 : w97.cell? ⟨gb225, 3, none⟩ = some (.string (⟨#[]⟩ : ByteArray)) := (blk_cell BK225.out 3).trans rfl
                    have hfz101_0 := blk_frozen BK225.out 0
                    have hfz101_1 := blk_frozen BK225.out 1
                    have hfz101_2 := blk_frozen BK225.out 2
                    have hfz101_3 := blk_frozen BK225.out 3
                    try go_wp2_with (first | ((with_reducible refine gate_callee (f := 34) rfl ?_); refine goesL_ (some 89) rfl rfl Tryd.func34 (by kernel_rfl) rfl #[.agg #[.int .i64 0, .bool x226001_27, .string (x5_27.extract 0 (x6_32 : Int).toNat), .string (x5_27.extract ((ji56) : Int).toNat x5_27.size)]] rfl (by (try simp only [List.map_toArray, List.map_cons, List.map_nil]); first | done | (simp only [hji56]; rfl) | rfl | (simp only [List.length_drop, List.length_take]; rfl)) ?_; (with_reducible refine (targumref4_Dec.calls kj37 0 x226001_27 (x5_27.extract 0 (x6_32 : Int).toNat) (x5_27.extract ((ji56) : Int).toNat x5_27.size) true _ A94.out).mono ?_); rintro e w102 ⟨rfl, hb⟩; refine ⟨_, rfl, ?_⟩; have n0_ := Aside0.mk (blk_below (g := gb224) (o := .cells #[.int .i64 0, .bool false, .string (⟨#[]⟩ : ByteArray), .string (⟨#[]⟩ : ByteArray)] 40 (0, 0)) bk hb); have n1_ := Aside0.mk (blk_below (g := gb225) (o := .cells #[.int .i64 0, .bool x226001_27, .string (x5_27.extract 0 (x6_32 : Int).toNat), .string (x5_27.extract ((ji56) : Int).toNat x5_27.size)] 40 (0, 0)) bk hb); have n2_ := Aside0.mk (below_step bl hb); clear BK224; clear BK225; clear HB; have BK224 := n0_; have BK225 := n1_; have HB := n2_; clear n0_ n1_ n2_; (try clear hb); (try clear hb2); (try clear hk); (try clear hi); have p96 : 0 ≤ ((ji56) : Int) := of_decide_eq_true (by first | (with_reducible assumption) | assumption); have q96 : (ji56) < (x5_27.size : Int) := of_decide_eq_true (by first | (with_reducible assumption) | assumption); have hx96 := bt_at x5_27 (ji56); replace p96 := eq_true p96; replace q96 := eq_true q96; have hcz103_0 : w102.cell? ⟨gb225, 0, none⟩ = some (.int .i64 0) := (blk_cell BK225.out 0).trans rfl; have hcz103_1 : w102.cell? ⟨gb225, 1, none⟩ = some (.bool x226001_27) := (blk_cell BK225.out 1).trans rfl; have hcz103_2 : w102.cell? ⟨gb225, 2, none⟩ = some (.string (x5_27.extract 0 (x6_32 : Int).toNat)) := (blk_cell BK225.out 2).trans rfl; have hcz103_3 : w102.cell? ⟨gb225, 3, none⟩ = some (.string (x5_27.extract ((ji56) : Int).toNat x5_27.size)) := (blk_cell BK225.out 3).trans rfl; have hfz103_0 := blk_frozen BK225.out 0; have hfz103_1 := blk_frozen BK225.out 1; have hfz103_2 := blk_frozen BK225.out 2; have hfz103_3 := blk_frozen BK225.out 3; have hcz104_0 : w102.cell? ⟨gb224, 0, none⟩ = some (.int .i64 0) := (blk_cell BK224.out 0).trans rfl; have hcz104_1 : w102.cell? ⟨gb224, 1, none⟩ = some (.bool false) := (blk_cell BK224.out 1).trans rfl; have hcz104_2 : w102.cell? ⟨gb224, 2, none⟩ = some (.string (⟨#[]⟩ : ByteArray)) := (blk_cell BK224.out 2).trans rfl; have hcz104_3 : w102.cell? ⟨gb224, 3, none⟩ = some (.string (⟨#[]⟩ : ByteArray)) := (blk_cell BK224.out 3).trans rfl; have hfz104_0 := blk_frozen BK224.out 0; have hfz104_1 := blk_frozen BK224.out 1; have hfz104_2 := blk_frozen BK224.out 2; have hfz104_3 := blk_frozen BK224.out 3))
                    refine bodyPost_ret (results_ct rfl _ _ gb224 40 #[.int .i64 0, .bool x226001_27, .string (x5_27.extract 0 (x6_32 : Int).toNat), .string (x5_27.extract ((ji56) : Int).toNat x5_27.size)] (0, 0) _ rfl bk Tryd.underlying40 rfl (by kernel_rfl)) rfl ?_
                    exact ⟨by first | rfl | (simp [errW_none, errW_some] <;> rfl) | (simp only [← hji56]; first | rfl | (simp [errW_none, errW_some] <;> rfl)) | (simp [*, errW_none, errW_some] <;> rfl), bl⟩
                   ·replace c95 := Bool.eq_false_iff.mpr c95
                    subst c95
                    have H1 : (some (0, false, (⟨#[]⟩ : ByteArray), (⟨#[]⟩ : ByteArray), false)) = some (r1, r2, r3, r4, r5) := by rw [if_neg (show ¬ (false = true) by decide)] at H; exact H
                    clear H
                    have H := H1
                    clear H1
                    simp only [Option.some.injEq, Prod.mk.injEq] at H
                    obtain ⟨rfl, rfl, rfl, rfl, rfl⟩ := H
                    try go_wp2
                    have n0_ := Aside0.mk (blk_drew BK224.out)
                    have n1_ := Aside0.mk (blk_drew BK225.out)
                    have n2_ := Aside0.mk (below_drew1 HB.out)
                    clear BK224
                    clear BK225
                    clear HB
                    have BK224 := n0_
                    have BK225 := n1_
                    have HB := n2_
                    clear n0_ n1_ n2_
                    refine start_ (n := 11) (S := fun w' => True) (ds := []) #[false, false, false, false, false, false, false, false, false, false, false] (by kernel_rfl) rfl rfl trivial (fun hHeld => ?_); refine with_tabW targumref4_Parse.tab17 targumref4_Parse.bits17 (fun HT_ HW_ => ?_)
                    generalize wc.drew = w105 at BK224 BK225 HB hHeld ⊢
                    refine pure_ (i := 0) (N := some 69) (v := ?_) (a' := ?_) #[true, false, false, false, false, false, false, false, false, false, false] rfl rfl (any_of HT_.out (by kernel_rfl)) (fun _ _ _ h => h) (Or.inl ⟨by rfl, ?_⟩) ?_ ?_
                    rotate_left
                    ·intro w'
                     go_simp
                     with_reducible rfl
                    rotate_left
                    ·simp only [Act.put, List.setIfInBounds_toArray, List.set_cons_zero, List.set_cons_succ, i64_w, i32_w]
                     rfl
                    refine pure_ (i := 1) (N := some 70) (v := ?_) (a' := ?_) #[true, true, false, false, false, false, false, false, false, false, false] rfl rfl (any_of HT_.out (by kernel_rfl)) (fun _ _ _ h => h) (Or.inl ⟨by rfl, ?_⟩) ?_ ?_
                    rotate_left
                    ·intro w'
                     go_simp
                     with_reducible rfl
                    rotate_left
                    ·simp only [Act.put, List.setIfInBounds_toArray, List.set_cons_zero, List.set_cons_succ, i64_w, i32_w]
                     rfl
                    refine pure_ (i := 2) (N := some 71) (v := ?_) (a' := ?_) #[true, true, true, false, false, false, false, false, false, false, false] rfl rfl (any_of HT_.out (by kernel_rfl)) (fun _ _ _ h => h) (Or.inl ⟨by rfl, ?_⟩) ?_ ?_
                    rotate_left
                    ·intro w'
                     go_simp
                     with_reducible rfl
                    rotate_left
                    ·simp only [Act.put, List.setIfInBounds_toArray, List.set_cons_zero, List.set_cons_succ, i64_w, i32_w]
                     rfl
                    refine pure_ (i := 3) (N := some 72) (v := ?_) (a' := ?_) #[true, true, true, true, false, false, false, false, false, false, false] rfl rfl (any_of HT_.out (by kernel_rfl)) (fun _ _ _ h => h) (Or.inl ⟨by rfl, ?_⟩) ?_ ?_
                    rotate_left
                    ·intro w'
                     go_simp
                     with_reducible rfl
                    rotate_left
                    ·simp only [Act.put, List.setIfInBounds_toArray, List.set_cons_zero, List.set_cons_succ, i64_w, i32_w]
                     rfl
                    refine pure_ (i := 4) (N := some 73) (v := ?_) (a' := ?_) #[true, true, true, true, true, false, false, false, false, false, false] rfl rfl (any_of HT_.out (by kernel_rfl)) (fun _ _ _ h => h) (Or.inl ⟨by rfl, ?_⟩) ?_ ?_
                    rotate_left
                    ·intro w'
                     go_simp
                     with_reducible rfl
                    rotate_left
                    ·simp only [Act.put, List.setIfInBounds_toArray, List.set_cons_zero, List.set_cons_succ, i64_w, i32_w]
                     rfl
                    refine pure_ (i := 5) (N := some 74) (v := ?_) (a' := ?_) #[true, true, true, true, true, true, false, false, false, false, false] rfl rfl (any_of HT_.out (by kernel_rfl)) (fun _ _ _ h => h) (Or.inl ⟨by rfl, ?_⟩) ?_ ?_
                    rotate_left
                    ·intro w'
                     go_simp
                     with_reducible rfl
                    rotate_left
                    ·simp only [Act.put, List.setIfInBounds_toArray, List.set_cons_zero, List.set_cons_succ, i64_w, i32_w]
                     rfl
                    refine pure_ (i := 6) (N := some 75) (v := ?_) (a' := ?_) #[true, true, true, true, true, true, true, false, false, false, false] rfl rfl (any_of HT_.out (by kernel_rfl)) (fun _ _ _ h => h) (Or.inl ⟨by rfl, ?_⟩) ?_ ?_
                    rotate_left
                    ·intro w'
                     go_simp
                     with_reducible rfl
                    rotate_left
                    ·simp only [Act.put, List.setIfInBounds_toArray, List.set_cons_zero, List.set_cons_succ, i64_w, i32_w]
                     rfl
                    refine pure_ (i := 7) (N := some 76) (v := ?_) (a' := ?_) #[true, true, true, true, true, true, true, true, false, false, false] rfl rfl (any_of HT_.out (by kernel_rfl)) (fun _ _ _ h => h) (Or.inl ⟨by rfl, ?_⟩) ?_ ?_
                    rotate_left
                    ·intro w'
                     go_simp
                     with_reducible rfl
                    rotate_left
                    ·simp only [Act.put, List.setIfInBounds_toArray, List.set_cons_zero, List.set_cons_succ, i64_w, i32_w]
                     rfl
                    refine one_ (i := 8) (N := none) #[true, true, true, true, true, true, true, true, true, false, false] rfl rfl (one_of HT_.out (by kernel_rfl)) (by decide) (fun K hK => ?_)
                    have hs106 : w105.cell? ⟨gb225, 2, none⟩ = some (.string (⟨#[]⟩ : ByteArray)) := (blk_cell BK225.out 2).trans rfl
                    have hfs106 := blk_frozen BK225.out 2
                    have hns106_0 := NB224_225.out
                    have hms106_0 := NB225_224.out
                    refine skip_ (w1 := ?_) (by rfl) rfl ?_ ?_
                    rotate_left
                    ·go_simp
                     rfl
                    refine hK.out _ _ trivial (fun hHeld => ?_)
                    clear hK K
                    refine pure_ (i := 9) (N := some 77) (v := ?_) (a' := ?_) #[true, true, true, true, true, true, true, true, true, true, false] rfl rfl (any_of HT_.out (by kernel_rfl)) (fun _ _ _ h => h) (Or.inl ⟨by rfl, ?_⟩) ?_ ?_
                    rotate_left
                    ·intro w'
                     go_simp
                     with_reducible rfl
                    rotate_left
                    ·simp only [Act.put, List.setIfInBounds_toArray, List.set_cons_zero, List.set_cons_succ, i64_w, i32_w]
                     rfl
                    refine one_ (i := 10) (N := none) #[true, true, true, true, true, true, true, true, true, true, true] rfl rfl (one_of HT_.out (by kernel_rfl)) (by decide) (fun K hK => ?_)
                    have hs107 : w105.cell? ⟨gb225, 3, none⟩ = some (.string (⟨#[]⟩ : ByteArray)) := (blk_cell BK225.out 3).trans rfl
                    have hfs107 := blk_frozen BK225.out 3
                    have hns107_0 := NB224_225.out
                    have hms107_0 := NB225_224.out
                    refine skip_ (w1 := ?_) (by rfl) rfl ?_ ?_
                    rotate_left
                    ·go_simp
                     rfl
                    refine hK.out _ _ trivial (fun hHeld => ?_)
                    clear hK K
                    refine done_ (done_of HT_.out (by kernel_rfl)) ?_
                    have p60 : 0 ≤ ((ji56) : Int) := of_decide_eq_true (by first | (with_reducible assumption) | assumption)
                    have q60 : (ji56) < (x5_27.size : Int) := of_decide_eq_true (by first | (with_reducible assumption) | assumption)
                    have hx60 := bt_at x5_27 (ji56)
                    replace p60 := eq_true p60
                    replace q60 := eq_true q60
                    have hnb108 := NB225_224.out
                    have hnc108 := NB224_225.out
                    have hcz109_0 : w105.cell? ⟨gb225, 0, none⟩ = some (.int .i64 0) := (blk_cell BK225.out 0).trans rfl
                    have hcz109_1 : w105.cell? ⟨gb225, 1, none⟩ = some (.bool x226001_27) := (blk_cell BK225.out 1).trans rfl
                    have hcz109_2 : w105.cell? ⟨gb225, 2, none⟩ = some (.string (⟨#[]⟩ : ByteArray)) := (blk_cell BK225.out 2).trans rfl
                    have hcz109_3 : w105.cell? ⟨gb225, 3, none⟩ = some (.string (⟨#[]⟩ : ByteArray)) := (blk_cell BK225.out 3).trans rfl
                    have hfz109_0 := blk_frozen BK225.out 0
                    have hfz109_1 := blk_frozen BK225.out 1
                    have hfz109_2 := blk_frozen BK225.out 2
                    have hfz109_3 := blk_frozen BK225.out 3
                    try go_wp2_with (first | ((with_reducible refine gate_callee (f := 34) rfl ?_); refine goesL_ (some 89) rfl rfl Tryd.func34 (by kernel_rfl) rfl #[.agg #[.int .i64 0, .bool x226001_27, .string (x5_27.extract 0 (x6_32 : Int).toNat), .string (x5_27.extract ((ji56) : Int).toNat x5_27.size)]] rfl (by (try simp only [List.map_toArray, List.map_cons, List.map_nil]); first | done | (simp only [hji56]; rfl) | rfl | (simp only [List.length_drop, List.length_take]; rfl)) ?_; (with_reducible refine (targumref4_Dec.calls kj37 0 x226001_27 (x5_27.extract 0 (x6_32 : Int).toNat) (x5_27.extract ((ji56) : Int).toNat x5_27.size) false _ A94.out).mono ?_); rintro e w110 ⟨rfl, hb⟩; refine ⟨_, rfl, ?_⟩; have n0_ := Aside0.mk (blk_below (g := gb224) (o := .cells #[.int .i64 0, .bool false, .string (⟨#[]⟩ : ByteArray), .string (⟨#[]⟩ : ByteArray)] 40 (0, 0)) bk hb); have n1_ := Aside0.mk (blk_below (g := gb225) (o := .cells #[.int .i64 0, .bool x226001_27, .string (x5_27.extract 0 (x6_32 : Int).toNat), .string (x5_27.extract ((ji56) : Int).toNat x5_27.size)] 40 (0, 0)) bk hb); have n2_ := Aside0.mk (below_step bl hb); clear BK224; clear BK225; clear HB; have BK224 := n0_; have BK225 := n1_; have HB := n2_; clear n0_ n1_ n2_; (try clear hb); (try clear hb2); (try clear hk); (try clear hi); have hcz111_0 : w110.cell? ⟨gb224, 0, none⟩ = some (.int .i64 0) := (blk_cell BK224.out 0).trans rfl; have hcz111_1 : w110.cell? ⟨gb224, 1, none⟩ = some (.bool false) := (blk_cell BK224.out 1).trans rfl; have hcz111_2 : w110.cell? ⟨gb224, 2, none⟩ = some (.string (⟨#[]⟩ : ByteArray)) := (blk_cell BK224.out 2).trans rfl; have hcz111_3 : w110.cell? ⟨gb224, 3, none⟩ = some (.string (⟨#[]⟩ : ByteArray)) := (blk_cell BK224.out 3).trans rfl; have hfz111_0 := blk_frozen BK224.out 0; have hfz111_1 := blk_frozen BK224.out 1; have hfz111_2 := blk_frozen BK224.out 2; have hfz111_3 := blk_frozen BK224.out 3))
                    refine bodyPost_ret (results_ct rfl _ _ gb224 40 #[.int .i64 0, .bool false, .string (⟨#[]⟩ : ByteArray), .string (⟨#[]⟩ : ByteArray)] (0, 0) _ rfl bk Tryd.underlying40 rfl (by kernel_rfl)) rfl ?_
                    exact ⟨by first | rfl | (simp [errW_none, errW_some] <;> rfl) | (simp only [← hji56]; first | rfl | (simp [errW_none, errW_some] <;> rfl)) | (simp [*, errW_none, errW_some] <;> rfl), bl⟩
                 ·rw [if_neg c59] at H
                  exact absurd H (by simp)
                ·rw [if_neg c58] at H
                 exact absurd H (by simp)
               ·rw [if_neg c57] at H
                exact absurd H (by simp)
              ·rw [if_neg c55] at H
               exact absurd H (by simp)
             ·rw [if_neg c54] at H
              exact absurd H (by simp)

end Go.Proofs.YtddaggnomcoejaaDoor.PD
