/- Written by this session's own program (xprint, made over the kit's print): Lean functions with the same answers as the Go functions, and the proofs of that. Not trusted: Lean checks it. -/
import Derived.Test.YtbjlcipamdgnjaaDoorPNx0
import Derived.Test.YtbjlcipamdgnjaaDoorPNx6
import Derived.Test.YtbjlcipamdgnjaaDoorPNx7
import Derived.Test.YtbjlcipamdgnjaaDoorPNx10
import Derived.Test.YtbjlcipamdgnjaaDoorPNx11
import Derived.Test.YtbjlcipamdgnjaaDoorXW
namespace Go.Proofs.YtbjlcipamdgnjaaDoor.PN
open Go.Proofs.YtbjlcipamdgnjaaDoor.XW Go.RowKit Go.Proofs.YtbjlcipamdgnjaaDoorW.PrintWords Go.Proofs.YtbjlcipamdgnjaaDoorW.PrintLast Go.Proofs.YtbjlcipamdgnjaaDoorW.PrintMore
attribute [local go_sem] max2_int min2_int max_two min_two max_three min_three max_four min_four   -- for this text's walks alone
set_option linter.unusedVariables false
set_option linter.unusedSimpArgs false

/-! ### targumref6_Float12: function 12 -/
mutual
def targumref6_Float12.j1 : Nat → ByteArray → Bool → Int → Option (Int × Bool × ByteArray × ByteArray × Bool)
 | 0, _, _, _ => none
 | k + 1, x6, x7, x10 => if 0 ≤ x10 then (if x10 ≤ (x6.size : Int) then (if x10 < (x6.size : Int) then (targumref6_Float12.j2 k x6 x7 x10 (x6.extract 0 (x10 : Int).toNat) (⟨#[]⟩ : ByteArray) ((bt x6 x10) == 46)) else (targumref6_Float12.j2 k x6 x7 x10 (x6.extract 0 (x10 : Int).toNat) (⟨#[]⟩ : ByteArray) false)) else (none)) else (none)
def targumref6_Float12.j2 : Nat → ByteArray → Bool → Int → ByteArray → ByteArray → Bool → Option (Int × Bool × ByteArray × ByteArray × Bool)
 | 0, _, _, _, _, _, _ => none
 | k + 1, x6, x7, x10, x11, x12, x65 => if x65 = true then (targumref6_Float12.l1 k x6 x7 x10 x11 (wrap64 (x10 + 1))) else (targumref6_Float12.j4 k x6 x7 x10 x11 x12)
def targumref6_Float12.j4 : Nat → ByteArray → Bool → Int → ByteArray → ByteArray → Option (Int × Bool × ByteArray × ByteArray × Bool)
 | 0, _, _, _, _, _ => none
 | k + 1, x6, x7, x10, x11, x12 => if 0 ≤ x10 then (if x10 ≤ (x6.size : Int) then ((targumref6_tail.f k (x6.extract (x10 : Int).toNat x6.size) true).bind fun bt290 => (if bt290.2 = true then ((targumref4_Make.f k x7 x11 x12 bt290.1).bind fun bt292 => (some (bt292.1, bt292.2.1, bt292.2.2.1, bt292.2.2.2.1, bt292.2.2.2.2))) else (some (0, false, (⟨#[]⟩ : ByteArray), (⟨#[]⟩ : ByteArray), false)))) else (none)) else (none)
def targumref6_Float12.l1 : Nat → ByteArray → Bool → Int → ByteArray → Int → Option (Int × Bool × ByteArray × ByteArray × Bool)
 | 0, _, _, _, _, _ => none
 | k + 1, x6, x7, x10, x11, x13 => if x13 < (x6.size : Int) then (if 0 ≤ x13 then ((targumref4_IsDigit.f (bt x6 x13)).bind fun t289 => (if t289 = true then (targumref6_Float12.l1 k x6 x7 x10 x11 (wrap64 (x13 + 1))) else (if 0 ≤ (wrap64 (x10 + 1)) then (if (wrap64 (x10 + 1)) ≤ x13 then (if x13 ≤ (x6.size : Int) then (targumref6_Float12.j4 k x6 x7 x13 x11 (x6.extract ((wrap64 (x10 + 1)) : Int).toNat (x13 : Int).toNat)) else (none)) else (none)) else (none)))) else (none)) else (if 0 ≤ (wrap64 (x10 + 1)) then (if (wrap64 (x10 + 1)) ≤ x13 then (if x13 ≤ (x6.size : Int) then (targumref6_Float12.j4 k x6 x7 x13 x11 (x6.extract ((wrap64 (x10 + 1)) : Int).toNat (x13 : Int).toNat)) else (none)) else (none)) else (none))
def targumref6_Float12.l0 : Nat → ByteArray → Bool → Int → Option (Int × Bool × ByteArray × ByteArray × Bool)
 | 0, _, _, _ => none
 | k + 1, x6, x7, x10 => if x10 < (x6.size : Int) then (if 0 ≤ x10 then ((targumref4_IsDigit.f (bt x6 x10)).bind fun t288 => (if t288 = true then (targumref6_Float12.l0 k x6 x7 (wrap64 (x10 + 1))) else (targumref6_Float12.j1 k x6 x7 x10))) else (none)) else (targumref6_Float12.j1 k x6 x7 x10)
end
def targumref6_Float12.f (k : Nat) (a0 : ByteArray) : Option (Int × Bool × ByteArray × ByteArray × Bool) := (targumref6_Int12.f k a0).bind fun bt278 => (if bt278.2 = true then (some (0, false, (⟨#[]⟩ : ByteArray), (⟨#[]⟩ : ByteArray), false)) else ((targumref6_sign.f a0).bind fun bt280 => ((targumref6_odd.f k bt280.1 bt280.2 (decide ((bt280.1.size : Int) < (a0.size : Int)))).bind fun bt282 => (if bt282.2.2.2.2 = true then (some (bt282.1, bt282.2.1, bt282.2.2.1, bt282.2.2.2.1, true)) else (targumref6_Float12.l0 k bt280.1 bt280.2 0)))))
theorem targumref6_Float12.mono_l : ∀ k, (∀ y0 y1 y2, LeO (targumref6_Float12.j1 k y0 y1 y2) (targumref6_Float12.j1 (k + 1) y0 y1 y2)) ∧ (∀ y0 y1 y2 y3 y4 y5, LeO (targumref6_Float12.j2 k y0 y1 y2 y3 y4 y5) (targumref6_Float12.j2 (k + 1) y0 y1 y2 y3 y4 y5)) ∧ (∀ y0 y1 y2 y3 y4, LeO (targumref6_Float12.j4 k y0 y1 y2 y3 y4) (targumref6_Float12.j4 (k + 1) y0 y1 y2 y3 y4)) ∧ (∀ y0 y1 y2 y3 y4, LeO (targumref6_Float12.l1 k y0 y1 y2 y3 y4) (targumref6_Float12.l1 (k + 1) y0 y1 y2 y3 y4)) ∧ (∀ y0 y1 y2, LeO (targumref6_Float12.l0 k y0 y1 y2) (targumref6_Float12.l0 (k + 1) y0 y1 y2))
 | 0 => ⟨fun _ _ _ r h => by simp [targumref6_Float12.j1] at h, fun _ _ _ _ _ _ r h => by simp [targumref6_Float12.j2] at h, fun _ _ _ _ _ r h => by simp [targumref6_Float12.j4] at h, fun _ _ _ _ _ r h => by simp [targumref6_Float12.l1] at h, fun _ _ _ r h => by simp [targumref6_Float12.l0] at h⟩
 | k + 1 => by
  obtain ⟨ih0, ih1, ih2, ih3, ih4⟩ := targumref6_Float12.mono_l k
  refine ⟨?_, ?_, ?_, ?_, ?_⟩
  ·intro y0 y1 y2
   unfold targumref6_Float12.j1
   repeat' first
   | (with_reducible exact ih0 _ _ _)
   | (with_reducible exact ih1 _ _ _ _ _ _)
   | (with_reducible exact ih2 _ _ _ _ _)
   | (with_reducible exact ih3 _ _ _ _ _)
   | (with_reducible exact ih4 _ _ _)
   | (with_reducible exact targumref4_Make.mono _ _ _ _ _)
   | (with_reducible exact targumref6_Int12.mono _ _)
   | (with_reducible exact targumref6_odd.mono _ _ _ _)
   | (with_reducible exact targumref6_tail.mono _ _ _)
   | (with_reducible exact LeO.refl _)
   | (with_reducible exact LeO.none _)
   | (with_reducible refine LeO.ite ?_ ?_)
   | (with_reducible refine LeO.bind ?_ (fun _ => ?_))
   | exact ih0 _ _ _
   | exact ih1 _ _ _ _ _ _
   | exact ih2 _ _ _ _ _
   | exact ih3 _ _ _ _ _
   | exact ih4 _ _ _
   | exact targumref4_Make.mono _ _ _ _ _
   | exact targumref6_Int12.mono _ _
   | exact targumref6_odd.mono _ _ _ _
   | exact targumref6_tail.mono _ _ _
   | exact LeO.none _
   | refine LeO.ite ?_ ?_
   | refine LeO.bind ?_ (fun _ => ?_)
  ·intro y0 y1 y2 y3 y4 y5
   unfold targumref6_Float12.j2
   repeat' first
   | (with_reducible exact ih0 _ _ _)
   | (with_reducible exact ih1 _ _ _ _ _ _)
   | (with_reducible exact ih2 _ _ _ _ _)
   | (with_reducible exact ih3 _ _ _ _ _)
   | (with_reducible exact ih4 _ _ _)
   | (with_reducible exact targumref4_Make.mono _ _ _ _ _)
   | (with_reducible exact targumref6_Int12.mono _ _)
   | (with_reducible exact targumref6_odd.mono _ _ _ _)
   | (with_reducible exact targumref6_tail.mono _ _ _)
   | (with_reducible exact LeO.refl _)
   | (with_reducible exact LeO.none _)
   | (with_reducible refine LeO.ite ?_ ?_)
   | (with_reducible refine LeO.bind ?_ (fun _ => ?_))
   | exact ih0 _ _ _
   | exact ih1 _ _ _ _ _ _
   | exact ih2 _ _ _ _ _
   | exact ih3 _ _ _ _ _
   | exact ih4 _ _ _
   | exact targumref4_Make.mono _ _ _ _ _
   | exact targumref6_Int12.mono _ _
   | exact targumref6_odd.mono _ _ _ _
   | exact targumref6_tail.mono _ _ _
   | exact LeO.none _
   | refine LeO.ite ?_ ?_
   | refine LeO.bind ?_ (fun _ => ?_)
  ·intro y0 y1 y2 y3 y4
   unfold targumref6_Float12.j4
   repeat' first
   | (with_reducible exact ih0 _ _ _)
   | (with_reducible exact ih1 _ _ _ _ _ _)
   | (with_reducible exact ih2 _ _ _ _ _)
   | (with_reducible exact ih3 _ _ _ _ _)
   | (with_reducible exact ih4 _ _ _)
   | (with_reducible exact targumref4_Make.mono _ _ _ _ _)
   | (with_reducible exact targumref6_Int12.mono _ _)
   | (with_reducible exact targumref6_odd.mono _ _ _ _)
   | (with_reducible exact targumref6_tail.mono _ _ _)
   | (with_reducible exact LeO.refl _)
   | (with_reducible exact LeO.none _)
   | (with_reducible refine LeO.ite ?_ ?_)
   | (with_reducible refine LeO.bind ?_ (fun _ => ?_))
   | exact ih0 _ _ _
   | exact ih1 _ _ _ _ _ _
   | exact ih2 _ _ _ _ _
   | exact ih3 _ _ _ _ _
   | exact ih4 _ _ _
   | exact targumref4_Make.mono _ _ _ _ _
   | exact targumref6_Int12.mono _ _
   | exact targumref6_odd.mono _ _ _ _
   | exact targumref6_tail.mono _ _ _
   | exact LeO.none _
   | refine LeO.ite ?_ ?_
   | refine LeO.bind ?_ (fun _ => ?_)
  ·intro y0 y1 y2 y3 y4
   unfold targumref6_Float12.l1
   repeat' first
   | (with_reducible exact ih0 _ _ _)
   | (with_reducible exact ih1 _ _ _ _ _ _)
   | (with_reducible exact ih2 _ _ _ _ _)
   | (with_reducible exact ih3 _ _ _ _ _)
   | (with_reducible exact ih4 _ _ _)
   | (with_reducible exact targumref4_Make.mono _ _ _ _ _)
   | (with_reducible exact targumref6_Int12.mono _ _)
   | (with_reducible exact targumref6_odd.mono _ _ _ _)
   | (with_reducible exact targumref6_tail.mono _ _ _)
   | (with_reducible exact LeO.refl _)
   | (with_reducible exact LeO.none _)
   | (with_reducible refine LeO.ite ?_ ?_)
   | (with_reducible refine LeO.bind ?_ (fun _ => ?_))
   | exact ih0 _ _ _
   | exact ih1 _ _ _ _ _ _
   | exact ih2 _ _ _ _ _
   | exact ih3 _ _ _ _ _
   | exact ih4 _ _ _
   | exact targumref4_Make.mono _ _ _ _ _
   | exact targumref6_Int12.mono _ _
   | exact targumref6_odd.mono _ _ _ _
   | exact targumref6_tail.mono _ _ _
   | exact LeO.none _
   | refine LeO.ite ?_ ?_
   | refine LeO.bind ?_ (fun _ => ?_)
  ·intro y0 y1 y2
   unfold targumref6_Float12.l0
   repeat' first
   | (with_reducible exact ih0 _ _ _)
   | (with_reducible exact ih1 _ _ _ _ _ _)
   | (with_reducible exact ih2 _ _ _ _ _)
   | (with_reducible exact ih3 _ _ _ _ _)
   | (with_reducible exact ih4 _ _ _)
   | (with_reducible exact targumref4_Make.mono _ _ _ _ _)
   | (with_reducible exact targumref6_Int12.mono _ _)
   | (with_reducible exact targumref6_odd.mono _ _ _ _)
   | (with_reducible exact targumref6_tail.mono _ _ _)
   | (with_reducible exact LeO.refl _)
   | (with_reducible exact LeO.none _)
   | (with_reducible refine LeO.ite ?_ ?_)
   | (with_reducible refine LeO.bind ?_ (fun _ => ?_))
   | exact ih0 _ _ _
   | exact ih1 _ _ _ _ _ _
   | exact ih2 _ _ _ _ _
   | exact ih3 _ _ _ _ _
   | exact ih4 _ _ _
   | exact targumref4_Make.mono _ _ _ _ _
   | exact targumref6_Int12.mono _ _
   | exact targumref6_odd.mono _ _ _ _
   | exact targumref6_tail.mono _ _ _
   | exact LeO.none _
   | refine LeO.ite ?_ ?_
   | refine LeO.bind ?_ (fun _ => ?_)
theorem targumref6_Float12.mono : ∀ a0 k, LeO (targumref6_Float12.f k a0) (targumref6_Float12.f (k + 1) a0) := by
 intro a0 k
 obtain ⟨ih0, ih1, ih2, ih3, ih4⟩ := targumref6_Float12.mono_l k
 unfold targumref6_Float12.f
 repeat' first
   | (with_reducible exact ih0 _ _ _)
   | (with_reducible exact ih1 _ _ _ _ _ _)
   | (with_reducible exact ih2 _ _ _ _ _)
   | (with_reducible exact ih3 _ _ _ _ _)
   | (with_reducible exact ih4 _ _ _)
   | (with_reducible exact targumref4_Make.mono _ _ _ _ _)
   | (with_reducible exact targumref6_Int12.mono _ _)
   | (with_reducible exact targumref6_odd.mono _ _ _ _)
   | (with_reducible exact targumref6_tail.mono _ _ _)
   | (with_reducible exact LeO.refl _)
   | (with_reducible exact LeO.none _)
   | (with_reducible refine LeO.ite ?_ ?_)
   | (with_reducible refine LeO.bind ?_ (fun _ => ?_))
   | exact ih0 _ _ _
   | exact ih1 _ _ _ _ _ _
   | exact ih2 _ _ _ _ _
   | exact ih3 _ _ _ _ _
   | exact ih4 _ _ _
   | exact targumref4_Make.mono _ _ _ _ _
   | exact targumref6_Int12.mono _ _
   | exact targumref6_odd.mono _ _ _ _
   | exact targumref6_tail.mono _ _ _
   | exact LeO.none _
   | refine LeO.ite ?_ ?_
   | refine LeO.bind ?_ (fun _ => ?_)
set_option maxHeartbeats 8000000 in
set_option maxRecDepth 100000 in
theorem targumref6_Float12.calls (k : Nat) (a0 : ByteArray) (r1 : Int) (r2 : Bool) (r3 : ByteArray) (r4 : ByteArray) (r5 : Bool) (w : World) (h : targumref6_Float12.f k a0 = some (r1, r2, r3, r4, r5)) :
  Calls Tryd.prog 12 #[.string a0] w fun e w' => e = .returned (.tuple #[.agg #[.int .i64 r1, .bool r2, .string r3, .string r4], .bool r5]) ∧ Below w.heap.size w w' := by
 have hu28 := Tryd.underlying28
 have HB := Aside0.mk (Below.refl w.heap.size w)
 have H : ((targumref6_Int12.f k a0).bind fun bt278 => (if bt278.2 = true then (some (0, false, (⟨#[]⟩ : ByteArray), (⟨#[]⟩ : ByteArray), false)) else ((targumref6_sign.f a0).bind fun bt280 => ((targumref6_odd.f k bt280.1 bt280.2 (decide ((bt280.1.size : Int) < (a0.size : Int)))).bind fun bt282 => (if bt282.2.2.2.2 = true then (some (bt282.1, bt282.2.1, bt282.2.2.1, bt282.2.2.2.1, true)) else (targumref6_Float12.l0 k bt280.1 bt280.2 0)))))) = some (r1, r2, r3, r4, r5) := h
 clear h
 replace H := Option.bind_eq_some_iff.mp H
 obtain ⟨⟨t278, t279⟩, A20, H⟩ := H
 replace H : (if t279 = true then (some (0, false, (⟨#[]⟩ : ByteArray), (⟨#[]⟩ : ByteArray), false)) else ((targumref6_sign.f a0).bind fun bt280 => ((targumref6_odd.f k bt280.1 bt280.2 (decide ((bt280.1.size : Int) < (a0.size : Int)))).bind fun bt282 => (if bt282.2.2.2.2 = true then (some (bt282.1, bt282.2.1, bt282.2.2.1, bt282.2.2.2.1, true)) else (targumref6_Float12.l0 k bt280.1 bt280.2 0))))) = some (r1, r2, r3, r4, r5) := H
 have A2 := Aside0.mk A20
 clear A20
 by_cases c3 : t279 = true
 ·subst c3
  have H1 : (some (0, false, (⟨#[]⟩ : ByteArray), (⟨#[]⟩ : ByteArray), false)) = some (r1, r2, r3, r4, r5) := by rw [if_pos rfl] at H; exact H
  clear H
  have H := H1
  clear H1
  simp only [Option.some.injEq, Prod.mk.injEq] at H
  obtain ⟨rfl, rfl, rfl, rfl, rfl⟩ := H
  go_enter Tryd.func12, Tryd.ntmps12
  go_wp2_with (first | ((with_reducible refine gate_dst (N := 2) rfl ?_); refine box_event ?hg (N := 2) ?hd (cs := #[.int .i64 0, .bool false, .string (⟨#[]⟩ : ByteArray), .string (⟨#[]⟩ : ByteArray)]) (t := 28) ?hr ?_; (case hd => rfl); (case hg => rfl); (case hr => first | (go_simp; done) | (go_simp; rfl)); intro gb277 hg w4 hbox hb; have n0_ := Aside0.mk (below_step bl hb); have n1_ := Aside0.mk (hbox); have n2_ := Aside0.mk ((by rw [hg]; exact (below_size bl) : w.heap.size ≤ gb277)); have n3_ := Aside0.mk ((by rw [hg]; exact (below_size bl) : w.heap.size ≤ gb277)); clear HB; have HB := n0_; have BK277 := n1_; have GW277 := n2_; have GE277 := n3_; clear n0_ n1_ n2_ n3_; clear hb hbox hg) | ((with_reducible refine gate_callee (f := 10) rfl ?_); refine goesL_ (some 18) rfl rfl Tryd.func10 (by kernel_rfl) rfl #[.string a0] rfl (by (try simp only [List.map_toArray, List.map_cons, List.map_nil]); first | done | rfl | (simp only [List.length_drop, List.length_take]; rfl)) ?_; (with_reducible refine (targumref6_Int12.calls k a0 t278 true _ A2.out).mono ?_); rintro e w5 ⟨rfl, hb⟩; refine ⟨_, rfl, ?_⟩; have n0_ := Aside0.mk (blk_below (g := gb277) (o := .cells #[.int .i64 0, .bool false, .string (⟨#[]⟩ : ByteArray), .string (⟨#[]⟩ : ByteArray)] 28 (0, 0)) bk hb); have n1_ := Aside0.mk (below_step bl hb); clear BK277; clear HB; have BK277 := n0_; have HB := n1_; clear n0_ n1_; (try clear hb); (try clear hb2); (try clear hk); (try clear hi); have hcz6_0 : w5.cell? ⟨gb277, 0, none⟩ = some (.int .i64 0) := (blk_cell BK277.out 0).trans rfl; have hcz6_1 : w5.cell? ⟨gb277, 1, none⟩ = some (.bool false) := (blk_cell BK277.out 1).trans rfl; have hcz6_2 : w5.cell? ⟨gb277, 2, none⟩ = some (.string (⟨#[]⟩ : ByteArray)) := (blk_cell BK277.out 2).trans rfl; have hcz6_3 : w5.cell? ⟨gb277, 3, none⟩ = some (.string (⟨#[]⟩ : ByteArray)) := (blk_cell BK277.out 3).trans rfl; have hfz6_0 := blk_frozen BK277.out 0; have hfz6_1 := blk_frozen BK277.out 1; have hfz6_2 := blk_frozen BK277.out 2; have hfz6_3 := blk_frozen BK277.out 3))
  refine bodyPost_ret (results_ct rfl _ _ gb277 28 #[.int .i64 0, .bool false, .string (⟨#[]⟩ : ByteArray), .string (⟨#[]⟩ : ByteArray)] (0, 0) _ rfl bk Tryd.underlying28 rfl (by kernel_rfl)) rfl ?_
  exact ⟨by first | rfl | (simp [errW_none, errW_some] <;> rfl) | (simp [*, errW_none, errW_some] <;> rfl), bl⟩
 ·replace c3 := Bool.eq_false_iff.mpr c3
  subst c3
  have H1 : ((targumref6_sign.f a0).bind fun bt280 => ((targumref6_odd.f k bt280.1 bt280.2 (decide ((bt280.1.size : Int) < (a0.size : Int)))).bind fun bt282 => (if bt282.2.2.2.2 = true then (some (bt282.1, bt282.2.1, bt282.2.2.1, bt282.2.2.2.1, true)) else (targumref6_Float12.l0 k bt280.1 bt280.2 0)))) = some (r1, r2, r3, r4, r5) := by rw [if_neg (show ¬ (false = true) by decide)] at H; exact H
  clear H
  have H := H1
  clear H1
  replace H := Option.bind_eq_some_iff.mp H
  obtain ⟨⟨t280, t281⟩, A70, H⟩ := H
  replace H : ((targumref6_odd.f k t280 t281 (decide ((t280.size : Int) < (a0.size : Int)))).bind fun bt282 => (if bt282.2.2.2.2 = true then (some (bt282.1, bt282.2.1, bt282.2.2.1, bt282.2.2.2.1, true)) else (targumref6_Float12.l0 k t280 t281 0))) = some (r1, r2, r3, r4, r5) := H
  have A7 := Aside0.mk A70
  clear A70
  replace H := Option.bind_eq_some_iff.mp H
  obtain ⟨⟨t282, t283, t284, t285, t286⟩, A80, H⟩ := H
  replace H : (if t286 = true then (some (t282, t283, t284, t285, true)) else (targumref6_Float12.l0 k t280 t281 0)) = some (r1, r2, r3, r4, r5) := H
  have A8 := Aside0.mk A80
  (try simp only [Int.ofNat_lt, Int.ofNat_le] at A8)
  clear A80
  by_cases c9 : t286 = true
  ·subst c9
   have H1 : (some (t282, t283, t284, t285, true)) = some (r1, r2, r3, r4, r5) := by rw [if_pos rfl] at H; exact H
   clear H
   have H := H1
   clear H1
   simp only [Option.some.injEq, Prod.mk.injEq] at H
   obtain ⟨rfl, rfl, rfl, rfl, rfl⟩ := H
   go_enter Tryd.func12, Tryd.ntmps12
   go_wp2_with (first | ((with_reducible refine gate_dst (N := 2) rfl ?_); refine box_event ?hg (N := 2) ?hd (cs := #[.int .i64 0, .bool false, .string (⟨#[]⟩ : ByteArray), .string (⟨#[]⟩ : ByteArray)]) (t := 28) ?hr ?_; (case hd => rfl); (case hg => rfl); (case hr => first | (go_simp; done) | (go_simp; rfl)); intro gb277 hg w10 hbox hb; have n0_ := Aside0.mk (below_step bl hb); have n1_ := Aside0.mk (hbox); have n2_ := Aside0.mk ((by rw [hg]; exact (below_size bl) : w.heap.size ≤ gb277)); have n3_ := Aside0.mk ((by rw [hg]; exact (below_size bl) : w.heap.size ≤ gb277)); clear HB; have HB := n0_; have BK277 := n1_; have GW277 := n2_; have GE277 := n3_; clear n0_ n1_ n2_ n3_; clear hb hbox hg) | ((with_reducible refine gate_callee (f := 10) rfl ?_); refine goesL_ (some 18) rfl rfl Tryd.func10 (by kernel_rfl) rfl #[.string a0] rfl (by (try simp only [List.map_toArray, List.map_cons, List.map_nil]); first | done | rfl | (simp only [List.length_drop, List.length_take]; rfl)) ?_; (with_reducible refine (targumref6_Int12.calls k a0 t278 false _ A2.out).mono ?_); rintro e w11 ⟨rfl, hb⟩; refine ⟨_, rfl, ?_⟩; have n0_ := Aside0.mk (blk_below (g := gb277) (o := .cells #[.int .i64 0, .bool false, .string (⟨#[]⟩ : ByteArray), .string (⟨#[]⟩ : ByteArray)] 28 (0, 0)) bk hb); have n1_ := Aside0.mk (below_step bl hb); clear BK277; clear HB; have BK277 := n0_; have HB := n1_; clear n0_ n1_; (try clear hb); (try clear hb2); (try clear hk); (try clear hi)) | ((with_reducible refine gate_callee (f := 26) rfl ?_); refine goesL_ (some 25) rfl rfl Tryd.func26 (by kernel_rfl) rfl #[.string a0] rfl (by (try simp only [List.map_toArray, List.map_cons, List.map_nil]); first | done | rfl | (simp only [List.length_drop, List.length_take]; rfl)) ?_; (with_reducible refine (targumref6_sign.calls a0 t280 t281 _ A7.out).mono ?_); rintro e w' ⟨rfl, ⟨nd, rfl⟩⟩; refine ⟨_, rfl, ?_⟩; (try (rw [drewN_self w11]; generalize hq_ : World.drewN w11 _ = w11; have n0_ : Aside0 (w11.heap[gb277]? = some (.cells #[.int .i64 0, .bool false, .string (⟨#[]⟩ : ByteArray), .string (⟨#[]⟩ : ByteArray)] 28 (0, 0))) := ⟨by rw [← hq_]; exact bk⟩; have n1_ : Aside0 (Below w.heap.size w w11) := ⟨by rw [← hq_]; exact bl⟩; clear BK277 HB hq_; have BK277 := n0_; have HB := n1_; clear n0_ n1_))) | ((with_reducible refine gate_callee (f := 30) rfl ?_); refine goesL_ (some 36) rfl rfl Tryd.func30 (by kernel_rfl) rfl #[.string t280, .bool t281, .bool (decide (t280.size < a0.size))] rfl (by (try simp only [List.map_toArray, List.map_cons, List.map_nil]); first | done | rfl | (simp only [List.length_drop, List.length_take]; rfl)) ?_; (with_reducible refine (targumref6_odd.calls k t280 t281 (decide (t280.size < a0.size)) t282 t283 t284 t285 true _ A8.out).mono ?_); rintro e w12 ⟨rfl, hb⟩; refine ⟨_, rfl, ?_⟩; have n0_ := Aside0.mk (blk_below (g := gb277) (o := .cells #[.int .i64 0, .bool false, .string (⟨#[]⟩ : ByteArray), .string (⟨#[]⟩ : ByteArray)] 28 (0, 0)) bk hb); have n1_ := Aside0.mk (below_step bl hb); clear BK277; clear HB; have BK277 := n0_; have HB := n1_; clear n0_ n1_; (try clear hb); (try clear hb2); (try clear hk); (try clear hi)) | ((with_reducible refine gate_dst (N := 8) rfl ?_); refine box_event ?hg (N := 8) ?hd (cs := #[.int .i64 0, .bool false, .string (⟨#[]⟩ : ByteArray), .string (⟨#[]⟩ : ByteArray)]) (t := 28) ?hr ?_; (case hd => rfl); (case hg => rfl); (case hr => first | (go_simp; done) | (go_simp; rfl)); intro gb287 hg w13 hbox hb; have n0_ := Aside0.mk (blk_below (g := gb277) (o := .cells #[.int .i64 0, .bool false, .string (⟨#[]⟩ : ByteArray), .string (⟨#[]⟩ : ByteArray)] 28 (0, 0)) bk hb); have n1_ := Aside0.mk (below_step bl hb); have n2_ := Aside0.mk (hbox); have n3_ := Aside0.mk ((by rw [hg]; exact (below_size bl) : w.heap.size ≤ gb287)); have n4_ := Aside0.mk ((by rw [hg]; exact (below_size bl) : w.heap.size ≤ gb287)); have n5_ := Aside0.mk ((by rw [hg]; exact Nat.ne_of_lt (blk_lt (g := gb277) (o := .cells #[.int .i64 0, .bool false, .string (⟨#[]⟩ : ByteArray), .string (⟨#[]⟩ : ByteArray)] 28 (0, 0)) bk) : gb277 ≠ gb287)); have n6_ := Aside0.mk ((by rw [hg]; exact Nat.ne_of_gt (blk_lt (g := gb277) (o := .cells #[.int .i64 0, .bool false, .string (⟨#[]⟩ : ByteArray), .string (⟨#[]⟩ : ByteArray)] 28 (0, 0)) bk) : gb287 ≠ gb277)); clear BK277; clear HB; have BK277 := n0_; have HB := n1_; have BK287 := n2_; have GW287 := n3_; have GE287 := n4_; have NB277_287 := n5_; have NB287_277 := n6_; clear n0_ n1_ n2_ n3_ n4_ n5_ n6_; clear hb hbox hg; have hnb14 := NB287_277.out; have hnc14 := NB277_287.out; have hcz15_0 : w13.cell? ⟨gb287, 0, none⟩ = some (.int .i64 0) := (blk_cell BK287.out 0).trans rfl; have hcz15_1 : w13.cell? ⟨gb287, 1, none⟩ = some (.bool false) := (blk_cell BK287.out 1).trans rfl; have hcz15_2 : w13.cell? ⟨gb287, 2, none⟩ = some (.string (⟨#[]⟩ : ByteArray)) := (blk_cell BK287.out 2).trans rfl; have hcz15_3 : w13.cell? ⟨gb287, 3, none⟩ = some (.string (⟨#[]⟩ : ByteArray)) := (blk_cell BK287.out 3).trans rfl; have hfz15_0 := blk_frozen BK287.out 0; have hfz15_1 := blk_frozen BK287.out 1; have hfz15_2 := blk_frozen BK287.out 2; have hfz15_3 := blk_frozen BK287.out 3; have hcz16_0 : w13.cell? ⟨gb277, 0, none⟩ = some (.int .i64 0) := (blk_cell BK277.out 0).trans rfl; have hcz16_1 : w13.cell? ⟨gb277, 1, none⟩ = some (.bool false) := (blk_cell BK277.out 1).trans rfl; have hcz16_2 : w13.cell? ⟨gb277, 2, none⟩ = some (.string (⟨#[]⟩ : ByteArray)) := (blk_cell BK277.out 2).trans rfl; have hcz16_3 : w13.cell? ⟨gb277, 3, none⟩ = some (.string (⟨#[]⟩ : ByteArray)) := (blk_cell BK277.out 3).trans rfl; have hfz16_0 := blk_frozen BK277.out 0; have hfz16_1 := blk_frozen BK277.out 1; have hfz16_2 := blk_frozen BK277.out 2; have hfz16_3 := blk_frozen BK277.out 3))
   refine bodyPost_ret (results_ct rfl _ _ gb277 28 #[.int .i64 t282, .bool t283, .string t284, .string t285] (0, 0) _ rfl bk Tryd.underlying28 rfl (by kernel_rfl)) rfl ?_
   exact ⟨by first | rfl | (simp [errW_none, errW_some] <;> rfl) | (simp [*, errW_none, errW_some] <;> rfl), bl⟩
  ·replace c9 := Bool.eq_false_iff.mpr c9
   subst c9
   have H1 : (targumref6_Float12.l0 k t280 t281 0) = some (r1, r2, r3, r4, r5) := by rw [if_neg (show ¬ (false = true) by decide)] at H; exact H
   clear H
   have H := H1
   clear H1
   have HC17 := Aside0.mk H
   clear H
   go_enter Tryd.func12, Tryd.ntmps12
   go_upto_block 0 with (first | ((with_reducible refine gate_dst (N := 2) rfl ?_); refine box_event ?hg (N := 2) ?hd (cs := #[.int .i64 0, .bool false, .string (⟨#[]⟩ : ByteArray), .string (⟨#[]⟩ : ByteArray)]) (t := 28) ?hr ?_; (case hd => rfl); (case hg => rfl); (case hr => first | (go_simp; done) | (go_simp; rfl)); intro gb277 hg w18 hbox hb; have n0_ := Aside0.mk (below_step bl hb); have n1_ := Aside0.mk (hbox); have n2_ := Aside0.mk ((by rw [hg]; exact (below_size bl) : w.heap.size ≤ gb277)); have n3_ := Aside0.mk ((by rw [hg]; exact (below_size bl) : w.heap.size ≤ gb277)); clear HB; have HB := n0_; have BK277 := n1_; have GW277 := n2_; have GE277 := n3_; clear n0_ n1_ n2_ n3_; clear hb hbox hg) | ((with_reducible refine gate_callee (f := 10) rfl ?_); refine goesL_ (some 18) rfl rfl Tryd.func10 (by kernel_rfl) rfl #[.string a0] rfl (by (try simp only [List.map_toArray, List.map_cons, List.map_nil]); first | done | rfl | (simp only [List.length_drop, List.length_take]; rfl)) ?_; (with_reducible refine (targumref6_Int12.calls k a0 t278 false _ A2.out).mono ?_); rintro e w19 ⟨rfl, hb⟩; refine ⟨_, rfl, ?_⟩; have n0_ := Aside0.mk (blk_below (g := gb277) (o := .cells #[.int .i64 0, .bool false, .string (⟨#[]⟩ : ByteArray), .string (⟨#[]⟩ : ByteArray)] 28 (0, 0)) bk hb); have n1_ := Aside0.mk (below_step bl hb); clear BK277; clear HB; have BK277 := n0_; have HB := n1_; clear n0_ n1_; (try clear hb); (try clear hb2); (try clear hk); (try clear hi)) | ((with_reducible refine gate_callee (f := 26) rfl ?_); refine goesL_ (some 25) rfl rfl Tryd.func26 (by kernel_rfl) rfl #[.string a0] rfl (by (try simp only [List.map_toArray, List.map_cons, List.map_nil]); first | done | rfl | (simp only [List.length_drop, List.length_take]; rfl)) ?_; (with_reducible refine (targumref6_sign.calls a0 t280 t281 _ A7.out).mono ?_); rintro e w' ⟨rfl, ⟨nd, rfl⟩⟩; refine ⟨_, rfl, ?_⟩; (try (rw [drewN_self w19]; generalize hq_ : World.drewN w19 _ = w19; have n0_ : Aside0 (w19.heap[gb277]? = some (.cells #[.int .i64 0, .bool false, .string (⟨#[]⟩ : ByteArray), .string (⟨#[]⟩ : ByteArray)] 28 (0, 0))) := ⟨by rw [← hq_]; exact bk⟩; have n1_ : Aside0 (Below w.heap.size w w19) := ⟨by rw [← hq_]; exact bl⟩; clear BK277 HB hq_; have BK277 := n0_; have HB := n1_; clear n0_ n1_))) | ((with_reducible refine gate_callee (f := 30) rfl ?_); refine goesL_ (some 36) rfl rfl Tryd.func30 (by kernel_rfl) rfl #[.string t280, .bool t281, .bool (decide (t280.size < a0.size))] rfl (by (try simp only [List.map_toArray, List.map_cons, List.map_nil]); first | done | rfl | (simp only [List.length_drop, List.length_take]; rfl)) ?_; (with_reducible refine (targumref6_odd.calls k t280 t281 (decide (t280.size < a0.size)) t282 t283 t284 t285 false _ A8.out).mono ?_); rintro e w20 ⟨rfl, hb⟩; refine ⟨_, rfl, ?_⟩; have n0_ := Aside0.mk (blk_below (g := gb277) (o := .cells #[.int .i64 0, .bool false, .string (⟨#[]⟩ : ByteArray), .string (⟨#[]⟩ : ByteArray)] 28 (0, 0)) bk hb); have n1_ := Aside0.mk (below_step bl hb); clear BK277; clear HB; have BK277 := n0_; have HB := n1_; clear n0_ n1_; (try clear hb); (try clear hb2); (try clear hk); (try clear hi)) | ((with_reducible refine gate_dst (N := 8) rfl ?_); refine box_event ?hg (N := 8) ?hd (cs := #[.int .i64 0, .bool false, .string (⟨#[]⟩ : ByteArray), .string (⟨#[]⟩ : ByteArray)]) (t := 28) ?hr ?_; (case hd => rfl); (case hg => rfl); (case hr => first | (go_simp; done) | (go_simp; rfl)); intro gb287 hg w21 hbox hb; have n0_ := Aside0.mk (blk_below (g := gb277) (o := .cells #[.int .i64 0, .bool false, .string (⟨#[]⟩ : ByteArray), .string (⟨#[]⟩ : ByteArray)] 28 (0, 0)) bk hb); have n1_ := Aside0.mk (below_step bl hb); have n2_ := Aside0.mk (hbox); have n3_ := Aside0.mk ((by rw [hg]; exact (below_size bl) : w.heap.size ≤ gb287)); have n4_ := Aside0.mk ((by rw [hg]; exact (below_size bl) : w.heap.size ≤ gb287)); have n5_ := Aside0.mk ((by rw [hg]; exact Nat.ne_of_lt (blk_lt (g := gb277) (o := .cells #[.int .i64 0, .bool false, .string (⟨#[]⟩ : ByteArray), .string (⟨#[]⟩ : ByteArray)] 28 (0, 0)) bk) : gb277 ≠ gb287)); have n6_ := Aside0.mk ((by rw [hg]; exact Nat.ne_of_gt (blk_lt (g := gb277) (o := .cells #[.int .i64 0, .bool false, .string (⟨#[]⟩ : ByteArray), .string (⟨#[]⟩ : ByteArray)] 28 (0, 0)) bk) : gb287 ≠ gb277)); clear BK277; clear HB; have BK277 := n0_; have HB := n1_; have BK287 := n2_; have GW287 := n3_; have GE287 := n4_; have NB277_287 := n5_; have NB287_277 := n6_; clear n0_ n1_ n2_ n3_ n4_ n5_ n6_; clear hb hbox hg; have hnb22 := NB287_277.out; have hnc22 := NB277_287.out; have hcz23_0 : w21.cell? ⟨gb287, 0, none⟩ = some (.int .i64 0) := (blk_cell BK287.out 0).trans rfl; have hcz23_1 : w21.cell? ⟨gb287, 1, none⟩ = some (.bool false) := (blk_cell BK287.out 1).trans rfl; have hcz23_2 : w21.cell? ⟨gb287, 2, none⟩ = some (.string (⟨#[]⟩ : ByteArray)) := (blk_cell BK287.out 2).trans rfl; have hcz23_3 : w21.cell? ⟨gb287, 3, none⟩ = some (.string (⟨#[]⟩ : ByteArray)) := (blk_cell BK287.out 3).trans rfl; have hfz23_0 := blk_frozen BK287.out 0; have hfz23_1 := blk_frozen BK287.out 1; have hfz23_2 := blk_frozen BK287.out 2; have hfz23_3 := blk_frozen BK287.out 3))
   (try simp only [Act.put, List.setIfInBounds_toArray, List.set_cons_zero, List.set_cons_succ])
   go_cut [10] (fun v10 wc => ∃ (kq : Nat) (x10_16 : Int), v10 = .int .i64 x10_16 ∧ Aside0 (targumref6_Float12.j1 kq t280 t281 x10_16 = some (r1, r2, r3, r4, r5)) ∧ Aside0 (kq ≤ k) ∧ Aside0 (wc.heap[gb277]? = some (.cells #[.int .i64 0, .bool false, .string (⟨#[]⟩ : ByteArray), .string (⟨#[]⟩ : ByteArray)] 28 (0, 0))) ∧ Aside0 (wc.heap[gb287]? = some (.cells #[.int .i64 t282, .bool t283, .string t284, .string t285] 28 (0, 0))) ∧ Aside0 (Below w.heap.size w wc))
   case first =>
    have H := HC17.out
    clear HC17
    have H' := Aside0.mk H
    clear H
    go_wp2
    go_loopg [10] k (fun kq v10 w' => ∃ (x10_1 : Int), v10 = .int .i64 x10_1 ∧ Aside0 (targumref6_Float12.l0 kq t280 t281 x10_1 = some (r1, r2, r3, r4, r5)) ∧ Aside0 (kq ≤ k) ∧ Aside0 (w'.heap[gb277]? = some (.cells #[.int .i64 0, .bool false, .string (⟨#[]⟩ : ByteArray), .string (⟨#[]⟩ : ByteArray)] 28 (0, 0))) ∧ Aside0 (w'.heap[gb287]? = some (.cells #[.int .i64 t282, .bool t283, .string t284, .string t285] 28 (0, 0))) ∧ Aside0 (Below w.heap.size w w'))
    case atStart => exact ⟨(0), (by first | rfl | (simp; done) | (simp [*]; done) | (simp [wrap64]; done)), H', ⟨Nat.le_refl _⟩, ⟨by (with_reducible repeat (first | refine blk_drewN ?_ _ | refine blk_drew ?_ | refine blk_alloc ?_ _)); refine blk_far ?_ NB277_287.out _; (with_reducible repeat (first | refine blk_drewN ?_ _ | refine blk_drew ?_ | refine blk_alloc ?_ _)); refine blk_far ?_ NB277_287.out _; (with_reducible repeat (first | refine blk_drewN ?_ _ | refine blk_drew ?_ | refine blk_alloc ?_ _)); refine blk_far ?_ NB277_287.out _; (with_reducible repeat (first | refine blk_drewN ?_ _ | refine blk_drew ?_ | refine blk_alloc ?_ _)); refine blk_far ?_ NB277_287.out _; (with_reducible repeat (first | refine blk_drewN ?_ _ | refine blk_drew ?_ | refine blk_alloc ?_ _)); exact BK277.out⟩, ⟨by (with_reducible repeat (first | refine blk_drewN ?_ _ | refine blk_drew ?_ | refine blk_alloc ?_ _)); refine blk_put (cs := #[.int .i64 t282, .bool t283, .string t284, .string (⟨#[]⟩ : ByteArray)]) ?_ 3 _ rfl; (with_reducible repeat (first | refine blk_drewN ?_ _ | refine blk_drew ?_ | refine blk_alloc ?_ _)); refine blk_put (cs := #[.int .i64 t282, .bool t283, .string (⟨#[]⟩ : ByteArray), .string (⟨#[]⟩ : ByteArray)]) ?_ 2 _ rfl; (with_reducible repeat (first | refine blk_drewN ?_ _ | refine blk_drew ?_ | refine blk_alloc ?_ _)); refine blk_put (cs := #[.int .i64 t282, .bool false, .string (⟨#[]⟩ : ByteArray), .string (⟨#[]⟩ : ByteArray)]) ?_ 1 _ rfl; (with_reducible repeat (first | refine blk_drewN ?_ _ | refine blk_drew ?_ | refine blk_alloc ?_ _)); refine blk_put (cs := #[.int .i64 0, .bool false, .string (⟨#[]⟩ : ByteArray), .string (⟨#[]⟩ : ByteArray)]) ?_ 0 _ rfl; (with_reducible repeat (first | refine blk_drewN ?_ _ | refine blk_drew ?_ | refine blk_alloc ?_ _)); exact BK287.out⟩, ⟨bl⟩⟩
    case round =>
     clear H'
     try clear c1; try clear c2; try clear p2; try clear c3; try clear c9; try clear c10; try clear c12; try clear c14; try clear c22; try clear hcz15_0; try clear hcz15_1; try clear hcz15_2; try clear hcz15_3; try clear hcz16_0; try clear hcz16_1; try clear hcz16_2; try clear hcz16_3; try clear hcz23_0; try clear hcz23_1; try clear hcz23_2; try clear hcz23_3; try clear hcz6_0; try clear hcz6_1; try clear hcz6_2; try clear hcz6_3; try clear hfz15_0; try clear hfz15_1; try clear hfz15_2; try clear hfz15_3; try clear hfz16_0; try clear hfz16_1; try clear hfz16_2; try clear hfz16_3; try clear hfz23_0; try clear hfz23_1; try clear hfz23_2; try clear hfz23_3; try clear hfz6_0; try clear hfz6_1; try clear hfz6_2; try clear hfz6_3
     obtain ⟨x10_1, rfl, HA, HK1, BK277, BK287, HB⟩ := hrel
     cases gk with
     | zero => exact absurd HA.out (by simp [targumref6_Float12.l0])
     | succ k1 =>
      have H := HA.out
      clear HA
      simp only [targumref6_Float12.l0] at H
      by_cases c24 : x10_1 < (t280.size : Int)
      ·rw [if_pos c24] at H
       have c24b0 : decide (x10_1 < (t280.size : Int)) = true := decide_eq_true c24
       clear c24
       (first | rw [c24b0] | (simp only [i64_w, i32_w]; rw [c24b0]) | skip)
       by_cases c25 : 0 ≤ x10_1
       ·rw [if_pos c25] at H
        have c25b0 : decide (0 ≤ x10_1) = true := decide_eq_true c25
        clear c25
        replace H := Option.bind_eq_some_iff.mp H
        obtain ⟨t288, A270, H⟩ := H
        replace H : (if t288 = true then (targumref6_Float12.l0 k1 t280 t281 (wrap64 (x10_1 + 1))) else (targumref6_Float12.j1 k1 t280 t281 x10_1)) = some (r1, r2, r3, r4, r5) := H
        have A27 := Aside0.mk A270
        clear A270
        by_cases c28 : t288 = true
        ·subst c28
         have H1 : (targumref6_Float12.l0 k1 t280 t281 (wrap64 (x10_1 + 1))) = some (r1, r2, r3, r4, r5) := by rw [if_pos rfl] at H; exact H
         clear H
         have H := H1
         clear H1
         have H' := Aside0.mk H
         clear H
         have p26 : 0 ≤ (x10_1 : Int) := of_decide_eq_true (by first | (with_reducible assumption) | assumption)
         have q26 : x10_1 < (t280.size : Int) := of_decide_eq_true (by first | (with_reducible assumption) | assumption)
         have hx26 := bt_at t280 x10_1
         replace p26 := eq_true p26
         replace q26 := eq_true q26
         go_wp2_with (first | (go_at_call 31; (try (rename_i hK_; simp only [List.append] at hK_)); (with_reducible refine (targumref4_IsDigit.calls (bt t280 x10_1) true _ A27.out).mono ?_); rintro e w' ⟨rfl, ⟨nd, rfl⟩⟩))
         go_roundg k1
         case measure => have := HK1.out; omega
         case rel => exact ⟨(wrap64 (x10_1 + 1)), (by first | rfl | (simp; done) | (simp [*]; done) | (simp [wrap64]; done)), H', ⟨by have := HK1.out; omega⟩, ⟨by (with_reducible repeat (first | refine blk_drewN ?_ _ | refine blk_drew ?_ | refine blk_alloc ?_ _)); exact BK277.out⟩, ⟨by (with_reducible repeat (first | refine blk_drewN ?_ _ | refine blk_drew ?_ | refine blk_alloc ?_ _)); exact BK287.out⟩, ⟨bl⟩⟩
        ·replace c28 := Bool.eq_false_iff.mpr c28
         subst c28
         have H1 : (targumref6_Float12.j1 k1 t280 t281 x10_1) = some (r1, r2, r3, r4, r5) := by rw [if_neg (show ¬ (false = true) by decide)] at H; exact H
         clear H
         have H := H1
         clear H1
         have H' := Aside0.mk H
         clear H
         have p26 : 0 ≤ (x10_1 : Int) := of_decide_eq_true (by first | (with_reducible assumption) | assumption)
         have q26 : x10_1 < (t280.size : Int) := of_decide_eq_true (by first | (with_reducible assumption) | assumption)
         have hx26 := bt_at t280 x10_1
         replace p26 := eq_true p26
         replace q26 := eq_true q26
         go_wp2_with (first | (go_at_call 31; (try (rename_i hK_; simp only [List.append] at hK_)); (with_reducible refine (targumref4_IsDigit.calls (bt t280 x10_1) false _ A27.out).mono ?_); rintro e w' ⟨rfl, ⟨nd, rfl⟩⟩))
         go_meet
         case rel => exact ⟨_, (x10_1), (by first | rfl | (simp; done) | (simp [*]; done) | (simp [wrap64]; done)), H', ⟨by have := HK1.out; first | omega | exact Nat.le_refl _⟩, ⟨by (with_reducible repeat (first | refine blk_drewN ?_ _ | refine blk_drew ?_ | refine blk_alloc ?_ _)); exact BK277.out⟩, ⟨by (with_reducible repeat (first | refine blk_drewN ?_ _ | refine blk_drew ?_ | refine blk_alloc ?_ _)); exact BK287.out⟩, ⟨bl⟩⟩
       ·rw [if_neg c25] at H
        exact absurd H (by simp)
      ·rw [if_neg c24] at H
       have c24b0 : decide (x10_1 < (t280.size : Int)) = false := decide_eq_false c24
       clear c24
       (first | rw [c24b0] | (simp only [i64_w, i32_w]; rw [c24b0]) | skip)
       have H' := Aside0.mk H
       clear H
       go_wp2
       go_meet
       case rel => exact ⟨_, (x10_1), (by first | rfl | (simp; done) | (simp [*]; done) | (simp [wrap64]; done)), H', ⟨by have := HK1.out; first | omega | exact Nat.le_refl _⟩, ⟨by (with_reducible repeat (first | refine blk_drewN ?_ _ | refine blk_drew ?_ | refine blk_alloc ?_ _)); exact BK277.out⟩, ⟨by (with_reducible repeat (first | refine blk_drewN ?_ _ | refine blk_drew ?_ | refine blk_alloc ?_ _)); exact BK287.out⟩, ⟨bl⟩⟩
   case rest =>
    clear HC17
    try clear c1; try clear c2; try clear p2; try clear q2; try clear hx2; try clear c3; try clear p6; try clear c9; try clear c10; try clear c12; try clear c14; try clear c22; try clear c24; try clear c24b0; try clear c25; try clear c25b0; try clear c26; try clear p26; try clear q26; try clear hx26; try clear c28; try clear hcz15_0; try clear hcz15_1; try clear hcz15_2; try clear hcz15_3; try clear hcz16_0; try clear hcz16_1; try clear hcz16_2; try clear hcz16_3; try clear hcz23_0; try clear hcz23_1; try clear hcz23_2; try clear hcz23_3; try clear hcz6_0; try clear hcz6_1; try clear hcz6_2; try clear hcz6_3; try clear hfz15_0; try clear hfz15_1; try clear hfz15_2; try clear hfz15_3; try clear hfz16_0; try clear hfz16_1; try clear hfz16_2; try clear hfz16_3; try clear hfz23_0; try clear hfz23_1; try clear hfz23_2; try clear hfz23_3; try clear hfz6_0; try clear hfz6_1; try clear hfz6_2; try clear hfz6_3; try clear p2; try clear p26; try clear q26
    obtain ⟨kq, x10_16, rfl, HA, HJ16, BK277, BK287, HB⟩ := hcut
    cases kq with
    | zero => exact absurd HA.out (by simp [targumref6_Float12.j1])
    | succ kj16 =>
     have H := HA.out
     clear HA
     simp only [targumref6_Float12.j1] at H
     by_cases c29 : 0 ≤ x10_16
     ·rw [if_pos c29] at H
      have c29b0 := eq_true c29
      have c29b1 : decide (0 ≤ x10_16) = true := decide_eq_true c29
      clear c29
      by_cases c30 : x10_16 ≤ (t280.size : Int)
      ·rw [if_pos c30] at H
       have c30b0 := eq_true c30
       have c30b1 : decide (x10_16 ≤ (t280.size : Int)) = true := decide_eq_true c30
       clear c30
       have HC31 := Aside0.mk H
       clear H
       go_upto_region 12 with (fail)
       go_cut [65] (fun v65 wc => ∃ (kq : Nat) (x65_30 : Bool), v65 = .bool x65_30 ∧ Aside0 (targumref6_Float12.j2 kq t280 t281 x10_16 (t280.extract 0 (x10_16 : Int).toNat) (⟨#[]⟩ : ByteArray) x65_30 = some (r1, r2, r3, r4, r5)) ∧ Aside0 (kq ≤ kj16) ∧ Aside0 (wc.heap[gb277]? = some (.cells #[.int .i64 0, .bool false, .string (⟨#[]⟩ : ByteArray), .string (⟨#[]⟩ : ByteArray)] 28 (0, 0))) ∧ Aside0 (wc.heap[gb287]? = some (.cells #[.int .i64 t282, .bool t283, .string t284, .string t285] 28 (0, 0))) ∧ Aside0 (Below w.heap.size w wc))
       case first =>
        have H := HC31.out
        clear HC31
        by_cases c32 : x10_16 < (t280.size : Int)
        ·rw [if_pos c32] at H
         have c32b0 : decide (x10_16 < (t280.size : Int)) = true := decide_eq_true c32
         clear c32
         (first | rw [c32b0] | (simp only [i64_w, i32_w]; rw [c32b0]) | skip)
         have H' := Aside0.mk H
         clear H
         have p33 : 0 ≤ (x10_16 : Int) := of_decide_eq_true (by first | (with_reducible assumption) | assumption)
         have q33 : x10_16 < (t280.size : Int) := of_decide_eq_true (by first | (with_reducible assumption) | assumption)
         have hx33 := bt_at t280 x10_16
         replace p33 := eq_true p33
         replace q33 := eq_true q33
         go_wp2
         go_meet
         case rel => exact ⟨_, (((bt t280 x10_16) == 46)), (by first | rfl | (simp; done) | (simp [*]; done) | (simp [wrap64]; done)), H', ⟨by have := HJ16.out; first | omega | exact Nat.le_refl _⟩, ⟨by (with_reducible repeat (first | refine blk_drewN ?_ _ | refine blk_drew ?_ | refine blk_alloc ?_ _)); exact BK277.out⟩, ⟨by (with_reducible repeat (first | refine blk_drewN ?_ _ | refine blk_drew ?_ | refine blk_alloc ?_ _)); exact BK287.out⟩, ⟨bl⟩⟩
        ·rw [if_neg c32] at H
         have c32b0 : decide (x10_16 < (t280.size : Int)) = false := decide_eq_false c32
         clear c32
         (first | rw [c32b0] | (simp only [i64_w, i32_w]; rw [c32b0]) | skip)
         have H' := Aside0.mk H
         clear H
         go_wp2
         go_meet
         case rel => exact ⟨_, (false), (by first | rfl | (simp; done) | (simp [*]; done) | (simp [wrap64]; done)), H', ⟨by have := HJ16.out; first | omega | exact Nat.le_refl _⟩, ⟨by (with_reducible repeat (first | refine blk_drewN ?_ _ | refine blk_drew ?_ | refine blk_alloc ?_ _)); exact BK277.out⟩, ⟨by (with_reducible repeat (first | refine blk_drewN ?_ _ | refine blk_drew ?_ | refine blk_alloc ?_ _)); exact BK287.out⟩, ⟨bl⟩⟩
       case rest =>
        clear HC31
        try clear c1; try clear c2; try clear p2; try clear q2; try clear hx2; try clear c3; try clear p3; try clear q3; try clear hx3; try clear p6; try clear c9; try clear c10; try clear c12; try clear c14; try clear c22; try clear c24; try clear c24b0; try clear c25; try clear c25b0; try clear c26; try clear p26; try clear q26; try clear hx26; try clear c28; try clear c29; try clear c29b0; try clear c29b1; try clear c30; try clear c30b0; try clear c30b1; try clear c32; try clear c32b0; try clear p33; try clear q33; try clear hx33; try clear hcz15_0; try clear hcz15_1; try clear hcz15_2; try clear hcz15_3; try clear hcz16_0; try clear hcz16_1; try clear hcz16_2; try clear hcz16_3; try clear hcz23_0; try clear hcz23_1; try clear hcz23_2; try clear hcz23_3; try clear hcz6_0; try clear hcz6_1; try clear hcz6_2; try clear hcz6_3; try clear hfz15_0; try clear hfz15_1; try clear hfz15_2; try clear hfz15_3; try clear hfz16_0; try clear hfz16_1; try clear hfz16_2; try clear hfz16_3; try clear hfz23_0; try clear hfz23_1; try clear hfz23_2; try clear hfz23_3; try clear hfz6_0; try clear hfz6_1; try clear hfz6_2; try clear hfz6_3; try clear p2; try clear p26; try clear p33; try clear p6; try clear q2; try clear q26; try clear q33
        obtain ⟨kq, x65_30, rfl, HA, HJ30, BK277, BK287, HB⟩ := hcut
        cases kq with
        | zero => exact absurd HA.out (by simp [targumref6_Float12.j2])
        | succ kj30 =>
         have H := HA.out
         clear HA
         simp only [targumref6_Float12.j2] at H
         have HC34 := Aside0.mk H
         clear H
         go_upto_if 65 with (fail)
         go_cut [10, 12] (fun v10 v12 wc => ∃ (kq : Nat) (x10_33 : Int) (x12_33 : ByteArray), v10 = .int .i64 x10_33 ∧ v12 = .string x12_33 ∧ Aside0 (targumref6_Float12.j4 kq t280 t281 x10_33 (t280.extract 0 (x10_16 : Int).toNat) x12_33 = some (r1, r2, r3, r4, r5)) ∧ Aside0 (kq ≤ kj30) ∧ Aside0 (wc.heap[gb277]? = some (.cells #[.int .i64 0, .bool false, .string (⟨#[]⟩ : ByteArray), .string (⟨#[]⟩ : ByteArray)] 28 (0, 0))) ∧ Aside0 (wc.heap[gb287]? = some (.cells #[.int .i64 t282, .bool t283, .string t284, .string t285] 28 (0, 0))) ∧ Aside0 (Below w.heap.size w wc))
         case first =>
          have H := HC34.out
          clear HC34
          by_cases c35 : x65_30 = true
          ·subst c35
           have H1 : (targumref6_Float12.l1 kj30 t280 t281 x10_16 (t280.extract 0 (x10_16 : Int).toNat) (wrap64 (x10_16 + 1))) = some (r1, r2, r3, r4, r5) := by rw [if_pos rfl] at H; exact H
           clear H
           have H := H1
           clear H1
           have H' := Aside0.mk H
           clear H
           go_wp2
           go_loopg [13] kj30 (fun kq v13 w' => ∃ (x13_3 : Int), v13 = .int .i64 x13_3 ∧ Aside0 (targumref6_Float12.l1 kq t280 t281 x10_16 (t280.extract 0 (x10_16 : Int).toNat) x13_3 = some (r1, r2, r3, r4, r5)) ∧ Aside0 (kq ≤ kj30) ∧ Aside0 (w'.heap[gb277]? = some (.cells #[.int .i64 0, .bool false, .string (⟨#[]⟩ : ByteArray), .string (⟨#[]⟩ : ByteArray)] 28 (0, 0))) ∧ Aside0 (w'.heap[gb287]? = some (.cells #[.int .i64 t282, .bool t283, .string t284, .string t285] 28 (0, 0))) ∧ Aside0 (Below w.heap.size w w'))
           case atStart => exact ⟨(wrap64 (x10_16 + 1)), (by first | rfl | (simp; done) | (simp [*]; done) | (simp [wrap64]; done)), H', ⟨Nat.le_refl _⟩, ⟨by (with_reducible repeat (first | refine blk_drewN ?_ _ | refine blk_drew ?_ | refine blk_alloc ?_ _)); exact BK277.out⟩, ⟨by (with_reducible repeat (first | refine blk_drewN ?_ _ | refine blk_drew ?_ | refine blk_alloc ?_ _)); exact BK287.out⟩, ⟨bl⟩⟩
           case round =>
            clear H'
            try clear c1; try clear c2; try clear p2; try clear q2; try clear hx2; try clear c3; try clear p3; try clear q3; try clear hx3; try clear p6; try clear c9; try clear c10; try clear c12; try clear c14; try clear c22; try clear c24; try clear c24b0; try clear c25; try clear c25b0; try clear c26; try clear p26; try clear q26; try clear hx26; try clear c28; try clear c29; try clear c29b0; try clear c29b1; try clear c30; try clear c30b0; try clear c30b1; try clear c32; try clear c32b0; try clear p33; try clear q33; try clear hx33; try clear c35; try clear hcz15_0; try clear hcz15_1; try clear hcz15_2; try clear hcz15_3; try clear hcz16_0; try clear hcz16_1; try clear hcz16_2; try clear hcz16_3; try clear hcz23_0; try clear hcz23_1; try clear hcz23_2; try clear hcz23_3; try clear hcz6_0; try clear hcz6_1; try clear hcz6_2; try clear hcz6_3; try clear hfz15_0; try clear hfz15_1; try clear hfz15_2; try clear hfz15_3; try clear hfz16_0; try clear hfz16_1; try clear hfz16_2; try clear hfz16_3; try clear hfz23_0; try clear hfz23_1; try clear hfz23_2; try clear hfz23_3; try clear hfz6_0; try clear hfz6_1; try clear hfz6_2; try clear hfz6_3; try clear p2; try clear p26; try clear p3; try clear p33; try clear p6; try clear q2; try clear q26; try clear q3; try clear q33
            obtain ⟨x13_3, rfl, HA, HK3, BK277, BK287, HB⟩ := hrel
            cases gk with
            | zero => exact absurd HA.out (by simp [targumref6_Float12.l1])
            | succ k3 =>
             have H := HA.out
             clear HA
             simp only [targumref6_Float12.l1] at H
             by_cases c36 : x13_3 < (t280.size : Int)
             ·rw [if_pos c36] at H
              have c36b0 : decide (x13_3 < (t280.size : Int)) = true := decide_eq_true c36
              clear c36
              (first | rw [c36b0] | (simp only [i64_w, i32_w]; rw [c36b0]) | skip)
              by_cases c37 : 0 ≤ x13_3
              ·rw [if_pos c37] at H
               have c37b0 : decide (0 ≤ x13_3) = true := decide_eq_true c37
               clear c37
               replace H := Option.bind_eq_some_iff.mp H
               obtain ⟨t289, A390, H⟩ := H
               replace H : (if t289 = true then (targumref6_Float12.l1 k3 t280 t281 x10_16 (t280.extract 0 (x10_16 : Int).toNat) (wrap64 (x13_3 + 1))) else (if 0 ≤ (wrap64 (x10_16 + 1)) then (if (wrap64 (x10_16 + 1)) ≤ x13_3 then (if x13_3 ≤ (t280.size : Int) then (targumref6_Float12.j4 k3 t280 t281 x13_3 (t280.extract 0 (x10_16 : Int).toNat) (t280.extract ((wrap64 (x10_16 + 1)) : Int).toNat (x13_3 : Int).toNat)) else (none)) else (none)) else (none))) = some (r1, r2, r3, r4, r5) := H
               have A39 := Aside0.mk A390
               clear A390
               by_cases c40 : t289 = true
               ·subst c40
                have H1 : (targumref6_Float12.l1 k3 t280 t281 x10_16 (t280.extract 0 (x10_16 : Int).toNat) (wrap64 (x13_3 + 1))) = some (r1, r2, r3, r4, r5) := by rw [if_pos rfl] at H; exact H
                clear H
                have H := H1
                clear H1
                have H' := Aside0.mk H
                clear H
                have p38 : 0 ≤ (x13_3 : Int) := of_decide_eq_true (by first | (with_reducible assumption) | assumption)
                have q38 : x13_3 < (t280.size : Int) := of_decide_eq_true (by first | (with_reducible assumption) | assumption)
                have hx38 := bt_at t280 x13_3
                replace p38 := eq_true p38
                replace q38 := eq_true q38
                go_wp2_with (first | (go_at_call 31; (try (rename_i hK_; simp only [List.append] at hK_)); (with_reducible refine (targumref4_IsDigit.calls (bt t280 x13_3) true _ A39.out).mono ?_); rintro e w' ⟨rfl, ⟨nd, rfl⟩⟩))
                go_roundg k3
                case measure => have := HJ16.out; have := HJ30.out; have := HK3.out; omega
                case rel => exact ⟨(wrap64 (x13_3 + 1)), (by first | rfl | (simp; done) | (simp [*]; done) | (simp [wrap64]; done)), H', ⟨by have := HJ16.out; have := HJ30.out; have := HK3.out; omega⟩, ⟨by (with_reducible repeat (first | refine blk_drewN ?_ _ | refine blk_drew ?_ | refine blk_alloc ?_ _)); exact BK277.out⟩, ⟨by (with_reducible repeat (first | refine blk_drewN ?_ _ | refine blk_drew ?_ | refine blk_alloc ?_ _)); exact BK287.out⟩, ⟨bl⟩⟩
               ·replace c40 := Bool.eq_false_iff.mpr c40
                subst c40
                have H1 : (if 0 ≤ (wrap64 (x10_16 + 1)) then (if (wrap64 (x10_16 + 1)) ≤ x13_3 then (if x13_3 ≤ (t280.size : Int) then (targumref6_Float12.j4 k3 t280 t281 x13_3 (t280.extract 0 (x10_16 : Int).toNat) (t280.extract ((wrap64 (x10_16 + 1)) : Int).toNat (x13_3 : Int).toNat)) else (none)) else (none)) else (none)) = some (r1, r2, r3, r4, r5) := by rw [if_neg (show ¬ (false = true) by decide)] at H; exact H
                clear H
                have H := H1
                clear H1
                obtain ⟨ji41, hji41⟩ : ∃ j_ : Int, (wrap64 (x10_16 + 1)) = j_ := ⟨_, rfl⟩
                replace H : (if 0 ≤ (ji41) then (if (ji41) ≤ x13_3 then (if x13_3 ≤ (t280.size : Int) then (targumref6_Float12.j4 k3 t280 t281 x13_3 (t280.extract 0 (x10_16 : Int).toNat) (t280.extract ((ji41) : Int).toNat (x13_3 : Int).toNat)) else (none)) else (none)) else (none)) = some (r1, r2, r3, r4, r5) := by first | (rw [hji41] at H; exact H) | (simp only [hji41] at H ⊢; exact H)
                (try rw [hji41] at A39)
                have hji41w : (IntKind.i64.wrap (x10_16 + 1)) = ji41 := (i64_w _).trans hji41
                by_cases c42 : 0 ≤ (ji41)
                ·rw [if_pos c42] at H
                 have c42b0 := eq_true c42
                 have c42b1 : decide (0 ≤ (ji41)) = true := decide_eq_true c42
                 clear c42
                 by_cases c43 : (ji41) ≤ x13_3
                 ·rw [if_pos c43] at H
                  have c43b0 := eq_true c43
                  have c43b1 : decide ((ji41) ≤ x13_3) = true := decide_eq_true c43
                  clear c43
                  by_cases c44 : x13_3 ≤ (t280.size : Int)
                  ·rw [if_pos c44] at H
                   have c44b0 := eq_true c44
                   have c44b1 : decide (x13_3 ≤ (t280.size : Int)) = true := decide_eq_true c44
                   clear c44
                   have H' := Aside0.mk H
                   clear H
                   have p38 : 0 ≤ (x13_3 : Int) := of_decide_eq_true (by first | (with_reducible assumption) | assumption)
                   have q38 : x13_3 < (t280.size : Int) := of_decide_eq_true (by first | (with_reducible assumption) | assumption)
                   have hx38 := bt_at t280 x13_3
                   replace p38 := eq_true p38
                   replace q38 := eq_true q38
                   go_wp2_with (first | (go_at_call 31; (try (rename_i hK_; simp only [List.append] at hK_)); (with_reducible refine (targumref4_IsDigit.calls (bt t280 x13_3) false _ A39.out).mono ?_); rintro e w' ⟨rfl, ⟨nd, rfl⟩⟩))
                   go_meet
                   case rel => exact ⟨_, (x13_3), (t280.extract ((ji41) : Int).toNat (x13_3 : Int).toNat), (by first | rfl | (simp; done) | (simp [*]; done) | (simp [wrap64]; done)), (by first | rfl | (simp; done) | (simp only [← hji41] <;> (first | rfl | simp)) | (simp [*]; done)), H', ⟨by have := HJ16.out; have := HJ30.out; have := HK3.out; first | omega | exact Nat.le_refl _⟩, ⟨by (with_reducible repeat (first | refine blk_drewN ?_ _ | refine blk_drew ?_ | refine blk_alloc ?_ _)); exact BK277.out⟩, ⟨by (with_reducible repeat (first | refine blk_drewN ?_ _ | refine blk_drew ?_ | refine blk_alloc ?_ _)); exact BK287.out⟩, ⟨bl⟩⟩
                  ·rw [if_neg c44] at H
                   exact absurd H (by simp)
                 ·rw [if_neg c43] at H
                  exact absurd H (by simp)
                ·rw [if_neg c42] at H
                 exact absurd H (by simp)
              ·rw [if_neg c37] at H
               exact absurd H (by simp)
             ·rw [if_neg c36] at H
              have c36b0 : decide (x13_3 < (t280.size : Int)) = false := decide_eq_false c36
              clear c36
              (first | rw [c36b0] | (simp only [i64_w, i32_w]; rw [c36b0]) | skip)
              obtain ⟨ji45, hji45⟩ : ∃ j_ : Int, (wrap64 (x10_16 + 1)) = j_ := ⟨_, rfl⟩
              replace H : (if 0 ≤ (ji45) then (if (ji45) ≤ x13_3 then (if x13_3 ≤ (t280.size : Int) then (targumref6_Float12.j4 k3 t280 t281 x13_3 (t280.extract 0 (x10_16 : Int).toNat) (t280.extract ((ji45) : Int).toNat (x13_3 : Int).toNat)) else (none)) else (none)) else (none)) = some (r1, r2, r3, r4, r5) := by first | (rw [hji45] at H; exact H) | (simp only [hji45] at H ⊢; exact H)
              have hji45w : (IntKind.i64.wrap (x10_16 + 1)) = ji45 := (i64_w _).trans hji45
              by_cases c46 : 0 ≤ (ji45)
              ·rw [if_pos c46] at H
               have c46b0 := eq_true c46
               have c46b1 : decide (0 ≤ (ji45)) = true := decide_eq_true c46
               clear c46
               by_cases c47 : (ji45) ≤ x13_3
               ·rw [if_pos c47] at H
                have c47b0 := eq_true c47
                have c47b1 : decide ((ji45) ≤ x13_3) = true := decide_eq_true c47
                clear c47
                by_cases c48 : x13_3 ≤ (t280.size : Int)
                ·rw [if_pos c48] at H
                 have c48b0 := eq_true c48
                 have c48b1 : decide (x13_3 ≤ (t280.size : Int)) = true := decide_eq_true c48
                 clear c48
                 have H' := Aside0.mk H
                 clear H
                 go_wp2
                 go_meet
                 case rel => exact ⟨_, (x13_3), (t280.extract ((ji45) : Int).toNat (x13_3 : Int).toNat), (by first | rfl | (simp; done) | (simp [*]; done) | (simp [wrap64]; done)), (by first | rfl | (simp; done) | (simp only [← hji45] <;> (first | rfl | simp)) | (simp [*]; done)), H', ⟨by have := HJ16.out; have := HJ30.out; have := HK3.out; first | omega | exact Nat.le_refl _⟩, ⟨by (with_reducible repeat (first | refine blk_drewN ?_ _ | refine blk_drew ?_ | refine blk_alloc ?_ _)); exact BK277.out⟩, ⟨by (with_reducible repeat (first | refine blk_drewN ?_ _ | refine blk_drew ?_ | refine blk_alloc ?_ _)); exact BK287.out⟩, ⟨bl⟩⟩
                ·rw [if_neg c48] at H
                 exact absurd H (by simp)
               ·rw [if_neg c47] at H
                exact absurd H (by simp)
              ·rw [if_neg c46] at H
               exact absurd H (by simp)
          ·replace c35 := Bool.eq_false_iff.mpr c35
           subst c35
           have H1 : (targumref6_Float12.j4 kj30 t280 t281 x10_16 (t280.extract 0 (x10_16 : Int).toNat) (⟨#[]⟩ : ByteArray)) = some (r1, r2, r3, r4, r5) := by rw [if_neg (show ¬ (false = true) by decide)] at H; exact H
           clear H
           have H := H1
           clear H1
           have H' := Aside0.mk H
           clear H
           go_wp2
           go_meet
           case rel => exact ⟨_, (x10_16), ((⟨#[]⟩ : ByteArray)), (by first | rfl | (simp; done) | (simp [*]; done) | (simp [wrap64]; done)), (by first | rfl | (simp; done) | (simp [*]; done) | (simp [wrap64]; done)), H', ⟨by have := HJ16.out; have := HJ30.out; first | omega | exact Nat.le_refl _⟩, ⟨by (with_reducible repeat (first | refine blk_drewN ?_ _ | refine blk_drew ?_ | refine blk_alloc ?_ _)); exact BK277.out⟩, ⟨by (with_reducible repeat (first | refine blk_drewN ?_ _ | refine blk_drew ?_ | refine blk_alloc ?_ _)); exact BK287.out⟩, ⟨bl⟩⟩
         case rest =>
          clear HC34
          try clear c1; try clear c2; try clear p2; try clear q2; try clear hx2; try clear c3; try clear p3; try clear q3; try clear hx3; try clear c4; try clear p6; try clear c9; try clear c10; try clear c12; try clear c14; try clear c22; try clear c24; try clear c24b0; try clear c25; try clear c25b0; try clear c26; try clear p26; try clear q26; try clear hx26; try clear c28; try clear c29; try clear c29b0; try clear c29b1; try clear c30; try clear c30b0; try clear c30b1; try clear c32; try clear c32b0; try clear p33; try clear q33; try clear hx33; try clear c35; try clear c36; try clear c36b0; try clear c37; try clear c37b0; try clear p38; try clear q38; try clear hx38; try clear c40; try clear c42; try clear c42b0; try clear c42b1; try clear c43; try clear c43b0; try clear c43b1; try clear c44; try clear c44b0; try clear c44b1; try clear c46; try clear c46b0; try clear c46b1; try clear c47; try clear c47b0; try clear c47b1; try clear c48; try clear c48b0; try clear c48b1; try clear hcz15_0; try clear hcz15_1; try clear hcz15_2; try clear hcz15_3; try clear hcz16_0; try clear hcz16_1; try clear hcz16_2; try clear hcz16_3; try clear hcz23_0; try clear hcz23_1; try clear hcz23_2; try clear hcz23_3; try clear hcz6_0; try clear hcz6_1; try clear hcz6_2; try clear hcz6_3; try clear hfz15_0; try clear hfz15_1; try clear hfz15_2; try clear hfz15_3; try clear hfz16_0; try clear hfz16_1; try clear hfz16_2; try clear hfz16_3; try clear hfz23_0; try clear hfz23_1; try clear hfz23_2; try clear hfz23_3; try clear hfz6_0; try clear hfz6_1; try clear hfz6_2; try clear hfz6_3; try clear p2; try clear p26; try clear p3; try clear p33; try clear p38; try clear p6; try clear q2; try clear q26; try clear q3; try clear q33; try clear q38
          obtain ⟨kq, x10_33, x12_33, rfl, rfl, HA, HJ33, BK277, BK287, HB⟩ := hcut
          cases kq with
          | zero => exact absurd HA.out (by simp [targumref6_Float12.j4])
          | succ kj33 =>
           have H := HA.out
           clear HA
           simp only [targumref6_Float12.j4] at H
           by_cases c49 : 0 ≤ x10_33
           ·rw [if_pos c49] at H
            have c49b0 := eq_true c49
            have c49b1 : decide (0 ≤ x10_33) = true := decide_eq_true c49
            clear c49
            by_cases c50 : x10_33 ≤ (t280.size : Int)
            ·rw [if_pos c50] at H
             have c50b0 := eq_true c50
             have c50b1 : decide (x10_33 ≤ (t280.size : Int)) = true := decide_eq_true c50
             clear c50
             replace H := Option.bind_eq_some_iff.mp H
             obtain ⟨⟨t290, t291⟩, A510, H⟩ := H
             replace H : (if t291 = true then ((targumref4_Make.f kj33 t281 (t280.extract 0 (x10_16 : Int).toNat) x12_33 t290).bind fun bt292 => (some (bt292.1, bt292.2.1, bt292.2.2.1, bt292.2.2.2.1, bt292.2.2.2.2))) else (some (0, false, (⟨#[]⟩ : ByteArray), (⟨#[]⟩ : ByteArray), false))) = some (r1, r2, r3, r4, r5) := H
             have A51 := Aside0.mk A510
             clear A510
             by_cases c52 : t291 = true
             ·subst c52
              have H1 : ((targumref4_Make.f kj33 t281 (t280.extract 0 (x10_16 : Int).toNat) x12_33 t290).bind fun bt292 => (some (bt292.1, bt292.2.1, bt292.2.2.1, bt292.2.2.2.1, bt292.2.2.2.2))) = some (r1, r2, r3, r4, r5) := by rw [if_pos rfl] at H; exact H
              clear H
              have H := H1
              clear H1
              replace H := Option.bind_eq_some_iff.mp H
              obtain ⟨⟨t292, t293, t294, t295, t296⟩, A530, H⟩ := H
              replace H : (some (t292, t293, t294, t295, t296)) = some (r1, r2, r3, r4, r5) := H
              have A53 := Aside0.mk A530
              clear A530
              simp only [Option.some.injEq, Prod.mk.injEq] at H
              obtain ⟨rfl, rfl, rfl, rfl, rfl⟩ := H
              go_wp2_with (first | ((with_reducible refine gate_callee (f := 32) rfl ?_); refine goesL_ (some 90) rfl rfl Tryd.func32 (by kernel_rfl) rfl #[.string (t280.extract (x10_33 : Int).toNat t280.size), .bool true] rfl (by (try simp only [List.map_toArray, List.map_cons, List.map_nil]); first | done | rfl | (simp only [List.length_drop, List.length_take]; rfl)) ?_; (with_reducible refine (targumref6_tail.calls kj33 (t280.extract (x10_33 : Int).toNat t280.size) true t290 true _ A51.out).mono ?_); rintro e w' ⟨rfl, ⟨nd, rfl⟩⟩; refine ⟨_, rfl, ?_⟩; (try (rw [drewN_self wc]; generalize hq_ : World.drewN wc _ = wc; have n0_ : Aside0 (wc.heap[gb277]? = some (.cells #[.int .i64 0, .bool false, .string (⟨#[]⟩ : ByteArray), .string (⟨#[]⟩ : ByteArray)] 28 (0, 0))) := ⟨by rw [← hq_]; exact bk⟩; have n1_ : Aside0 (wc.heap[gb287]? = some (.cells #[.int .i64 t282, .bool t283, .string t284, .string t285] 28 (0, 0))) := ⟨by rw [← hq_]; exact bk⟩; have n2_ : Aside0 (Below w.heap.size w wc) := ⟨by rw [← hq_]; exact bl⟩; clear BK277 BK287 HB hq_; have BK277 := n0_; have BK287 := n1_; have HB := n2_; clear n0_ n1_ n2_))) | ((with_reducible refine gate_callee (f := 13) rfl ?_); refine goesL_ (some 100) rfl rfl Tryd.func13 (by kernel_rfl) rfl #[.bool t281, .string (t280.extract 0 (x10_16 : Int).toNat), .string x12_33, .string t290] rfl (by (try simp only [List.map_toArray, List.map_cons, List.map_nil]); first | done | rfl | (simp only [List.length_drop, List.length_take]; rfl)) ?_; (with_reducible refine (targumref4_Make.calls kj33 t281 (t280.extract 0 (x10_16 : Int).toNat) x12_33 t290 t292 t293 t294 t295 t296 _ A53.out).mono ?_); rintro e w54 ⟨rfl, hb⟩; refine ⟨_, rfl, ?_⟩; have n0_ := Aside0.mk (blk_below (g := gb277) (o := .cells #[.int .i64 0, .bool false, .string (⟨#[]⟩ : ByteArray), .string (⟨#[]⟩ : ByteArray)] 28 (0, 0)) bk hb); have n1_ := Aside0.mk (blk_below (g := gb287) (o := .cells #[.int .i64 t282, .bool t283, .string t284, .string t285] 28 (0, 0)) bk hb); have n2_ := Aside0.mk (below_step bl hb); clear BK277; clear BK287; clear HB; have BK277 := n0_; have BK287 := n1_; have HB := n2_; clear n0_ n1_ n2_; (try clear hb); (try clear hb2); (try clear hk); (try clear hi); have hnb55 := NB277_287.out; have hnc55 := NB287_277.out; have hcz56_0 : w54.cell? ⟨gb277, 0, none⟩ = some (.int .i64 0) := (blk_cell BK277.out 0).trans rfl; have hcz56_1 : w54.cell? ⟨gb277, 1, none⟩ = some (.bool false) := (blk_cell BK277.out 1).trans rfl; have hcz56_2 : w54.cell? ⟨gb277, 2, none⟩ = some (.string (⟨#[]⟩ : ByteArray)) := (blk_cell BK277.out 2).trans rfl; have hcz56_3 : w54.cell? ⟨gb277, 3, none⟩ = some (.string (⟨#[]⟩ : ByteArray)) := (blk_cell BK277.out 3).trans rfl; have hfz56_0 := blk_frozen BK277.out 0; have hfz56_1 := blk_frozen BK277.out 1; have hfz56_2 := blk_frozen BK277.out 2; have hfz56_3 := blk_frozen BK277.out 3))
              refine bodyPost_ret (results_ct rfl _ _ gb277 28 #[.int .i64 t292, .bool t293, .string t294, .string t295] (0, 0) _ rfl bk Tryd.underlying28 rfl (by kernel_rfl)) rfl ?_
              exact ⟨by first | rfl | (simp [errW_none, errW_some] <;> rfl) | (simp [*, errW_none, errW_some] <;> rfl), bl⟩
             ·replace c52 := Bool.eq_false_iff.mpr c52
              subst c52
              have H1 : (some (0, false, (⟨#[]⟩ : ByteArray), (⟨#[]⟩ : ByteArray), false)) = some (r1, r2, r3, r4, r5) := by rw [if_neg (show ¬ (false = true) by decide)] at H; exact H
              clear H
              have H := H1
              clear H1
              simp only [Option.some.injEq, Prod.mk.injEq] at H
              obtain ⟨rfl, rfl, rfl, rfl, rfl⟩ := H
              go_wp2_with (first | ((with_reducible refine gate_callee (f := 32) rfl ?_); refine goesL_ (some 90) rfl rfl Tryd.func32 (by kernel_rfl) rfl #[.string (t280.extract (x10_33 : Int).toNat t280.size), .bool true] rfl (by (try simp only [List.map_toArray, List.map_cons, List.map_nil]); first | done | rfl | (simp only [List.length_drop, List.length_take]; rfl)) ?_; (with_reducible refine (targumref6_tail.calls kj33 (t280.extract (x10_33 : Int).toNat t280.size) true t290 false _ A51.out).mono ?_); rintro e w' ⟨rfl, ⟨nd, rfl⟩⟩; refine ⟨_, rfl, ?_⟩; (try (rw [drewN_self wc]; generalize hq_ : World.drewN wc _ = wc; have n0_ : Aside0 (wc.heap[gb277]? = some (.cells #[.int .i64 0, .bool false, .string (⟨#[]⟩ : ByteArray), .string (⟨#[]⟩ : ByteArray)] 28 (0, 0))) := ⟨by rw [← hq_]; exact bk⟩; have n1_ : Aside0 (wc.heap[gb287]? = some (.cells #[.int .i64 t282, .bool t283, .string t284, .string t285] 28 (0, 0))) := ⟨by rw [← hq_]; exact bk⟩; have n2_ : Aside0 (Below w.heap.size w wc) := ⟨by rw [← hq_]; exact bl⟩; clear BK277 BK287 HB hq_; have BK277 := n0_; have BK287 := n1_; have HB := n2_; clear n0_ n1_ n2_)); have hnb57 := NB277_287.out; have hnc57 := NB287_277.out; have hcz58_0 : wc.cell? ⟨gb277, 0, none⟩ = some (.int .i64 0) := (blk_cell BK277.out 0).trans rfl; have hcz58_1 : wc.cell? ⟨gb277, 1, none⟩ = some (.bool false) := (blk_cell BK277.out 1).trans rfl; have hcz58_2 : wc.cell? ⟨gb277, 2, none⟩ = some (.string (⟨#[]⟩ : ByteArray)) := (blk_cell BK277.out 2).trans rfl; have hcz58_3 : wc.cell? ⟨gb277, 3, none⟩ = some (.string (⟨#[]⟩ : ByteArray)) := (blk_cell BK277.out 3).trans rfl; have hfz58_0 := blk_frozen BK277.out 0; have hfz58_1 := blk_frozen BK277.out 1; have hfz58_2 := blk_frozen BK277.out 2; have hfz58_3 := blk_frozen BK277.out 3))
              refine bodyPost_ret (results_ct rfl _ _ gb277 28 #[.int .i64 0, .bool false, .string (⟨#[]⟩ : ByteArray), .string (⟨#[]⟩ : ByteArray)] (0, 0) _ rfl bk Tryd.underlying28 rfl (by kernel_rfl)) rfl ?_
              exact ⟨by first | rfl | (simp [errW_none, errW_some] <;> rfl) | (simp [*, errW_none, errW_some] <;> rfl), bl⟩
            ·rw [if_neg c50] at H
             exact absurd H (by simp)
           ·rw [if_neg c49] at H
            exact absurd H (by simp)
      ·rw [if_neg c30] at H
       exact absurd H (by simp)
     ·rw [if_neg c29] at H
      exact absurd H (by simp)

end Go.Proofs.YtbjlcipamdgnjaaDoor.PN
