/- Written by this session's own program (xprint, made over the kit's print): Lean functions with the same answers as the Go functions, and the proofs of that. Not trusted: Lean checks it. -/
import Derived.Test.YtbjlcipamdgnjaaDoorPNx0
import Derived.Test.YtbjlcipamdgnjaaDoorPNx6
import Derived.Test.YtbjlcipamdgnjaaDoorPNx7
import Derived.Test.YtbjlcipamdgnjaaDoorPNx10
import Derived.Test.YtbjlcipamdgnjaaDoorPNx11
import Derived.Test.YtbjlcipamdgnjaaDoorPNx18
import Derived.Test.YtbjlcipamdgnjaaDoorPNx19
import Derived.Test.YtbjlcipamdgnjaaDoorXW
namespace Go.Proofs.YtbjlcipamdgnjaaDoor.PN
open Go.Proofs.YtbjlcipamdgnjaaDoor.XW Go.RowKit Go.Proofs.YtbjlcipamdgnjaaDoorW.PrintWords Go.Proofs.YtbjlcipamdgnjaaDoorW.PrintLast Go.Proofs.YtbjlcipamdgnjaaDoorW.PrintMore
attribute [local go_sem] max2_int min2_int max_two min_two max_three min_three max_four min_four   -- for this text's walks alone
set_option linter.unusedVariables false
set_option linter.unusedSimpArgs false

/-! ### targumref6_Float11: function 20 -/
mutual
def targumref6_Float11.j1 : Nat → ByteArray → Bool → Int → ByteArray → Int → Option (Int × Bool × ByteArray × ByteArray × Int)
 | 0, _, _, _, _, _ => none
 | k + 1, x4, x5, x8, x9, x10 => if 0 ≤ x10 then (if x10 ≤ (x9.size : Int) then ((targumref6_bare.f k (x9.extract 0 (x10 : Int).toNat) 10).bind fun bt459 => ((targumref6_tail.f k (x9.extract (x10 : Int).toNat x9.size) false).bind fun bt461 => (if bt461.2 = true then (if x8 > 0 then (if 0 < (x4.size : Int) then ((targumref4_IsDigit.f (bt x4 0)).bind fun t463 => (if t463 = true then (if 0 ≤ x8 then (if x8 ≤ (x4.size : Int) then ((targumref6_bare.f k (x4.extract 0 (x8 : Int).toNat) 10).bind fun bt464 => (if bt464.2 = true then (targumref6_Float11.j2 k x5 x8 x9 x10 bt459.1 bt459.2 bt461.1 bt464.1 1 bt464.2) else ((targumref6_sixty.f k (x4.extract 0 (x8 : Int).toNat)).bind fun bt466 => (targumref6_Float11.j2 k x5 x8 x9 x10 bt459.1 bt459.2 bt461.1 bt466.1 3 bt466.2)))) else (none)) else (none)) else (some (0, false, (⟨#[]⟩ : ByteArray), (⟨#[]⟩ : ByteArray), 0)))) else (none)) else (if x8 = 0 then (if bt459.2 = true then ((targumref4_Make.f k x5 (⟨#[]⟩ : ByteArray) bt459.1 bt461.1).bind fun bt480 => (some (bt480.1, bt480.2.1, bt480.2.2.1, bt480.2.2.2.1, 2))) else (some (0, false, (⟨#[]⟩ : ByteArray), (⟨#[]⟩ : ByteArray), 0))) else ((targumref4_Make.f k x5 (⟨#[]⟩ : ByteArray) bt459.1 bt461.1).bind fun bt486 => (some (bt486.1, bt486.2.1, bt486.2.2.1, bt486.2.2.2.1, 2))))) else (some (0, false, (⟨#[]⟩ : ByteArray), (⟨#[]⟩ : ByteArray), 0))))) else (none)) else (none)
def targumref6_Float11.j2 : Nat → Bool → Int → ByteArray → Int → ByteArray → Bool → ByteArray → ByteArray → Int → Bool → Option (Int × Bool × ByteArray × ByteArray × Int)
 | 0, _, _, _, _, _, _, _, _, _, _ => none
 | k + 1, x5, x8, x9, x10, x11, x12, x13, x15, x16, x18 => if x18 = true then (if x16 = 3 then (targumref6_Float11.j3 k x5 x8 x11 x12 x13 x15 x16 (decide (x10 < (x9.size : Int)))) else (targumref6_Float11.j3 k x5 x8 x11 x12 x13 x15 x16 false)) else (targumref6_Float11.j3 k x5 x8 x11 x12 x13 x15 x16 true)
def targumref6_Float11.j3 : Nat → Bool → Int → ByteArray → Bool → ByteArray → ByteArray → Int → Bool → Option (Int × Bool × ByteArray × ByteArray × Int)
 | 0, _, _, _, _, _, _, _, _ => none
 | k + 1, x5, x8, x11, x12, x13, x15, x16, x123 => if x123 = true then (some (0, false, (⟨#[]⟩ : ByteArray), (⟨#[]⟩ : ByteArray), 0)) else (if x8 = 0 then (if x12 = true then ((targumref4_Make.f k x5 x15 x11 x13).bind fun bt468 => (some (bt468.1, bt468.2.1, bt468.2.2.1, bt468.2.2.2.1, x16))) else (some (0, false, (⟨#[]⟩ : ByteArray), (⟨#[]⟩ : ByteArray), 0))) else ((targumref4_Make.f k x5 x15 x11 x13).bind fun bt474 => (some (bt474.1, bt474.2.1, bt474.2.2.1, bt474.2.2.2.1, x16))))
def targumref6_Float11.l0 : Nat → ByteArray → Bool → Int → ByteArray → Int → Option (Int × Bool × ByteArray × ByteArray × Int)
 | 0, _, _, _, _, _ => none
 | k + 1, x4, x5, x8, x9, x10 => if x10 < (x9.size : Int) then (if 0 ≤ x10 then ((targumref4_IsDigit.f (bt x9 x10)).bind fun t458 => (if t458 = true then (targumref6_Float11.l0 k x4 x5 x8 x9 (wrap64 (x10 + 1))) else (if (bt x9 x10) = 95 then (targumref6_Float11.l0 k x4 x5 x8 x9 (wrap64 (x10 + 1))) else (targumref6_Float11.j1 k x4 x5 x8 x9 x10)))) else (none)) else (targumref6_Float11.j1 k x4 x5 x8 x9 x10)
end
def targumref6_Float11.f (k : Nat) (a0 : ByteArray) : Option (Int × Bool × ByteArray × ByteArray × Int) := (targumref6_sign.f a0).bind fun bt449 => ((targumref6_odd.f k bt449.1 bt449.2 (decide ((bt449.1.size : Int) < (a0.size : Int)))).bind fun bt451 => (if bt451.2.2.2.2 = true then (some (bt451.1, bt451.2.1, bt451.2.2.1, bt451.2.2.2.1, wrap64 ((wrap64 (4 + bt451.1)) - 1))) else ((targumref6_find.f k bt449.1 46).bind fun t457 => (if t457 < 0 then (some (0, false, (⟨#[]⟩ : ByteArray), (⟨#[]⟩ : ByteArray), 0)) else (if 0 ≤ (wrap64 (t457 + 1)) then (if (wrap64 (t457 + 1)) ≤ (bt449.1.size : Int) then (targumref6_Float11.l0 k bt449.1 bt449.2 t457 (bt449.1.extract ((wrap64 (t457 + 1)) : Int).toNat bt449.1.size) 0) else (none)) else (none))))))
theorem targumref6_Float11.mono_l : ∀ k, (∀ y0 y1 y2 y3 y4, LeO (targumref6_Float11.j1 k y0 y1 y2 y3 y4) (targumref6_Float11.j1 (k + 1) y0 y1 y2 y3 y4)) ∧ (∀ y0 y1 y2 y3 y4 y5 y6 y7 y8 y9, LeO (targumref6_Float11.j2 k y0 y1 y2 y3 y4 y5 y6 y7 y8 y9) (targumref6_Float11.j2 (k + 1) y0 y1 y2 y3 y4 y5 y6 y7 y8 y9)) ∧ (∀ y0 y1 y2 y3 y4 y5 y6 y7, LeO (targumref6_Float11.j3 k y0 y1 y2 y3 y4 y5 y6 y7) (targumref6_Float11.j3 (k + 1) y0 y1 y2 y3 y4 y5 y6 y7)) ∧ (∀ y0 y1 y2 y3 y4, LeO (targumref6_Float11.l0 k y0 y1 y2 y3 y4) (targumref6_Float11.l0 (k + 1) y0 y1 y2 y3 y4))
 | 0 => ⟨fun _ _ _ _ _ r h => by simp [targumref6_Float11.j1] at h, fun _ _ _ _ _ _ _ _ _ _ r h => by simp [targumref6_Float11.j2] at h, fun _ _ _ _ _ _ _ _ r h => by simp [targumref6_Float11.j3] at h, fun _ _ _ _ _ r h => by simp [targumref6_Float11.l0] at h⟩
 | k + 1 => by
  obtain ⟨ih0, ih1, ih2, ih3⟩ := targumref6_Float11.mono_l k
  refine ⟨?_, ?_, ?_, ?_⟩
  ·intro y0 y1 y2 y3 y4
   unfold targumref6_Float11.j1
   repeat' first
   | (with_reducible exact ih0 _ _ _ _ _)
   | (with_reducible exact ih1 _ _ _ _ _ _ _ _ _ _)
   | (with_reducible exact ih2 _ _ _ _ _ _ _ _)
   | (with_reducible exact ih3 _ _ _ _ _)
   | (with_reducible exact targumref4_Make.mono _ _ _ _ _)
   | (with_reducible exact targumref6_bare.mono _ _ _)
   | (with_reducible exact targumref6_find.mono _ _ _)
   | (with_reducible exact targumref6_odd.mono _ _ _ _)
   | (with_reducible exact targumref6_sixty.mono _ _)
   | (with_reducible exact targumref6_tail.mono _ _ _)
   | (with_reducible exact LeO.refl _)
   | (with_reducible exact LeO.none _)
   | (with_reducible refine LeO.ite ?_ ?_)
   | (with_reducible refine LeO.bind ?_ (fun _ => ?_))
   | exact ih0 _ _ _ _ _
   | exact ih1 _ _ _ _ _ _ _ _ _ _
   | exact ih2 _ _ _ _ _ _ _ _
   | exact ih3 _ _ _ _ _
   | exact targumref4_Make.mono _ _ _ _ _
   | exact targumref6_bare.mono _ _ _
   | exact targumref6_find.mono _ _ _
   | exact targumref6_odd.mono _ _ _ _
   | exact targumref6_sixty.mono _ _
   | exact targumref6_tail.mono _ _ _
   | exact LeO.none _
   | refine LeO.ite ?_ ?_
   | refine LeO.bind ?_ (fun _ => ?_)
  ·intro y0 y1 y2 y3 y4 y5 y6 y7 y8 y9
   unfold targumref6_Float11.j2
   repeat' first
   | (with_reducible exact ih0 _ _ _ _ _)
   | (with_reducible exact ih1 _ _ _ _ _ _ _ _ _ _)
   | (with_reducible exact ih2 _ _ _ _ _ _ _ _)
   | (with_reducible exact ih3 _ _ _ _ _)
   | (with_reducible exact targumref4_Make.mono _ _ _ _ _)
   | (with_reducible exact targumref6_bare.mono _ _ _)
   | (with_reducible exact targumref6_find.mono _ _ _)
   | (with_reducible exact targumref6_odd.mono _ _ _ _)
   | (with_reducible exact targumref6_sixty.mono _ _)
   | (with_reducible exact targumref6_tail.mono _ _ _)
   | (with_reducible exact LeO.refl _)
   | (with_reducible exact LeO.none _)
   | (with_reducible refine LeO.ite ?_ ?_)
   | (with_reducible refine LeO.bind ?_ (fun _ => ?_))
   | exact ih0 _ _ _ _ _
   | exact ih1 _ _ _ _ _ _ _ _ _ _
   | exact ih2 _ _ _ _ _ _ _ _
   | exact ih3 _ _ _ _ _
   | exact targumref4_Make.mono _ _ _ _ _
   | exact targumref6_bare.mono _ _ _
   | exact targumref6_find.mono _ _ _
   | exact targumref6_odd.mono _ _ _ _
   | exact targumref6_sixty.mono _ _
   | exact targumref6_tail.mono _ _ _
   | exact LeO.none _
   | refine LeO.ite ?_ ?_
   | refine LeO.bind ?_ (fun _ => ?_)
  ·intro y0 y1 y2 y3 y4 y5 y6 y7
   unfold targumref6_Float11.j3
   repeat' first
   | (with_reducible exact ih0 _ _ _ _ _)
   | (with_reducible exact ih1 _ _ _ _ _ _ _ _ _ _)
   | (with_reducible exact ih2 _ _ _ _ _ _ _ _)
   | (with_reducible exact ih3 _ _ _ _ _)
   | (with_reducible exact targumref4_Make.mono _ _ _ _ _)
   | (with_reducible exact targumref6_bare.mono _ _ _)
   | (with_reducible exact targumref6_find.mono _ _ _)
   | (with_reducible exact targumref6_odd.mono _ _ _ _)
   | (with_reducible exact targumref6_sixty.mono _ _)
   | (with_reducible exact targumref6_tail.mono _ _ _)
   | (with_reducible exact LeO.refl _)
   | (with_reducible exact LeO.none _)
   | (with_reducible refine LeO.ite ?_ ?_)
   | (with_reducible refine LeO.bind ?_ (fun _ => ?_))
   | exact ih0 _ _ _ _ _
   | exact ih1 _ _ _ _ _ _ _ _ _ _
   | exact ih2 _ _ _ _ _ _ _ _
   | exact ih3 _ _ _ _ _
   | exact targumref4_Make.mono _ _ _ _ _
   | exact targumref6_bare.mono _ _ _
   | exact targumref6_find.mono _ _ _
   | exact targumref6_odd.mono _ _ _ _
   | exact targumref6_sixty.mono _ _
   | exact targumref6_tail.mono _ _ _
   | exact LeO.none _
   | refine LeO.ite ?_ ?_
   | refine LeO.bind ?_ (fun _ => ?_)
  ·intro y0 y1 y2 y3 y4
   unfold targumref6_Float11.l0
   repeat' first
   | (with_reducible exact ih0 _ _ _ _ _)
   | (with_reducible exact ih1 _ _ _ _ _ _ _ _ _ _)
   | (with_reducible exact ih2 _ _ _ _ _ _ _ _)
   | (with_reducible exact ih3 _ _ _ _ _)
   | (with_reducible exact targumref4_Make.mono _ _ _ _ _)
   | (with_reducible exact targumref6_bare.mono _ _ _)
   | (with_reducible exact targumref6_find.mono _ _ _)
   | (with_reducible exact targumref6_odd.mono _ _ _ _)
   | (with_reducible exact targumref6_sixty.mono _ _)
   | (with_reducible exact targumref6_tail.mono _ _ _)
   | (with_reducible exact LeO.refl _)
   | (with_reducible exact LeO.none _)
   | (with_reducible refine LeO.ite ?_ ?_)
   | (with_reducible refine LeO.bind ?_ (fun _ => ?_))
   | exact ih0 _ _ _ _ _
   | exact ih1 _ _ _ _ _ _ _ _ _ _
   | exact ih2 _ _ _ _ _ _ _ _
   | exact ih3 _ _ _ _ _
   | exact targumref4_Make.mono _ _ _ _ _
   | exact targumref6_bare.mono _ _ _
   | exact targumref6_find.mono _ _ _
   | exact targumref6_odd.mono _ _ _ _
   | exact targumref6_sixty.mono _ _
   | exact targumref6_tail.mono _ _ _
   | exact LeO.none _
   | refine LeO.ite ?_ ?_
   | refine LeO.bind ?_ (fun _ => ?_)
theorem targumref6_Float11.mono : ∀ a0 k, LeO (targumref6_Float11.f k a0) (targumref6_Float11.f (k + 1) a0) := by
 intro a0 k
 obtain ⟨ih0, ih1, ih2, ih3⟩ := targumref6_Float11.mono_l k
 unfold targumref6_Float11.f
 repeat' first
   | (with_reducible exact ih0 _ _ _ _ _)
   | (with_reducible exact ih1 _ _ _ _ _ _ _ _ _ _)
   | (with_reducible exact ih2 _ _ _ _ _ _ _ _)
   | (with_reducible exact ih3 _ _ _ _ _)
   | (with_reducible exact targumref4_Make.mono _ _ _ _ _)
   | (with_reducible exact targumref6_bare.mono _ _ _)
   | (with_reducible exact targumref6_find.mono _ _ _)
   | (with_reducible exact targumref6_odd.mono _ _ _ _)
   | (with_reducible exact targumref6_sixty.mono _ _)
   | (with_reducible exact targumref6_tail.mono _ _ _)
   | (with_reducible exact LeO.refl _)
   | (with_reducible exact LeO.none _)
   | (with_reducible refine LeO.ite ?_ ?_)
   | (with_reducible refine LeO.bind ?_ (fun _ => ?_))
   | exact ih0 _ _ _ _ _
   | exact ih1 _ _ _ _ _ _ _ _ _ _
   | exact ih2 _ _ _ _ _ _ _ _
   | exact ih3 _ _ _ _ _
   | exact targumref4_Make.mono _ _ _ _ _
   | exact targumref6_bare.mono _ _ _
   | exact targumref6_find.mono _ _ _
   | exact targumref6_odd.mono _ _ _ _
   | exact targumref6_sixty.mono _ _
   | exact targumref6_tail.mono _ _ _
   | exact LeO.none _
   | refine LeO.ite ?_ ?_
   | refine LeO.bind ?_ (fun _ => ?_)
set_option maxHeartbeats 8000000 in
set_option maxRecDepth 100000 in
theorem targumref6_Float11.calls (k : Nat) (a0 : ByteArray) (r1 : Int) (r2 : Bool) (r3 : ByteArray) (r4 : ByteArray) (r5 : Int) (w : World) (h : targumref6_Float11.f k a0 = some (r1, r2, r3, r4, r5)) :
  Calls Tryd.prog 20 #[.string a0] w fun e w' => e = .returned (.tuple #[.agg #[.int .i64 r1, .bool r2, .string r3, .string r4], .int .i64 r5]) ∧ Below w.heap.size w w' := by
 have hu28 := Tryd.underlying28
 have HB := Aside0.mk (Below.refl w.heap.size w)
 have H : ((targumref6_sign.f a0).bind fun bt449 => ((targumref6_odd.f k bt449.1 bt449.2 (decide ((bt449.1.size : Int) < (a0.size : Int)))).bind fun bt451 => (if bt451.2.2.2.2 = true then (some (bt451.1, bt451.2.1, bt451.2.2.1, bt451.2.2.2.1, wrap64 ((wrap64 (4 + bt451.1)) - 1))) else ((targumref6_find.f k bt449.1 46).bind fun t457 => (if t457 < 0 then (some (0, false, (⟨#[]⟩ : ByteArray), (⟨#[]⟩ : ByteArray), 0)) else (if 0 ≤ (wrap64 (t457 + 1)) then (if (wrap64 (t457 + 1)) ≤ (bt449.1.size : Int) then (targumref6_Float11.l0 k bt449.1 bt449.2 t457 (bt449.1.extract ((wrap64 (t457 + 1)) : Int).toNat bt449.1.size) 0) else (none)) else (none))))))) = some (r1, r2, r3, r4, r5) := h
 clear h
 replace H := Option.bind_eq_some_iff.mp H
 obtain ⟨⟨t449, t450⟩, A20, H⟩ := H
 replace H : ((targumref6_odd.f k t449 t450 (decide ((t449.size : Int) < (a0.size : Int)))).bind fun bt451 => (if bt451.2.2.2.2 = true then (some (bt451.1, bt451.2.1, bt451.2.2.1, bt451.2.2.2.1, wrap64 ((wrap64 (4 + bt451.1)) - 1))) else ((targumref6_find.f k t449 46).bind fun t457 => (if t457 < 0 then (some (0, false, (⟨#[]⟩ : ByteArray), (⟨#[]⟩ : ByteArray), 0)) else (if 0 ≤ (wrap64 (t457 + 1)) then (if (wrap64 (t457 + 1)) ≤ (t449.size : Int) then (targumref6_Float11.l0 k t449 t450 t457 (t449.extract ((wrap64 (t457 + 1)) : Int).toNat t449.size) 0) else (none)) else (none)))))) = some (r1, r2, r3, r4, r5) := H
 have A2 := Aside0.mk A20
 clear A20
 replace H := Option.bind_eq_some_iff.mp H
 obtain ⟨⟨t451, t452, t453, t454, t455⟩, A30, H⟩ := H
 replace H : (if t455 = true then (some (t451, t452, t453, t454, wrap64 ((wrap64 (4 + t451)) - 1))) else ((targumref6_find.f k t449 46).bind fun t457 => (if t457 < 0 then (some (0, false, (⟨#[]⟩ : ByteArray), (⟨#[]⟩ : ByteArray), 0)) else (if 0 ≤ (wrap64 (t457 + 1)) then (if (wrap64 (t457 + 1)) ≤ (t449.size : Int) then (targumref6_Float11.l0 k t449 t450 t457 (t449.extract ((wrap64 (t457 + 1)) : Int).toNat t449.size) 0) else (none)) else (none))))) = some (r1, r2, r3, r4, r5) := H
 have A3 := Aside0.mk A30
 (try simp only [Int.ofNat_lt, Int.ofNat_le] at A3)
 clear A30
 by_cases c4 : t455 = true
 ·subst c4
  have H1 : (some (t451, t452, t453, t454, wrap64 ((wrap64 (4 + t451)) - 1))) = some (r1, r2, r3, r4, r5) := by rw [if_pos rfl] at H; exact H
  clear H
  have H := H1
  clear H1
  simp only [Option.some.injEq, Prod.mk.injEq] at H
  obtain ⟨rfl, rfl, rfl, rfl, rfl⟩ := H
  go_enter Tryd.func20, Tryd.ntmps20
  try go_wp2_with (first | ((with_reducible refine gate_dst (N := 2) rfl ?_); (try (refine gate_guard (by rfl) ?_; dsimp only)); refine box_event ?hg (N := 2) ?hd (cs := #[.int .i64 0, .bool false, .string (⟨#[]⟩ : ByteArray), .string (⟨#[]⟩ : ByteArray)]) (t := 28) ?hr ?_; (case hd => rfl); (case hg => rfl); (case hr => first | (go_simp; done) | (go_simp; rfl)); intro gb448 hg w5 hbox hb; have n0_ := Aside0.mk (below_step bl hb); have n1_ := Aside0.mk (hbox); have n2_ := Aside0.mk ((by rw [hg]; exact (below_size bl) : w.heap.size ≤ gb448)); have n3_ := Aside0.mk ((by rw [hg]; exact (below_size bl) : w.heap.size ≤ gb448)); clear HB; have HB := n0_; have BK448 := n1_; have GW448 := n2_; have GE448 := n3_; clear n0_ n1_ n2_ n3_; clear hb hbox hg) | ((with_reducible refine gate_callee (f := 26) rfl ?_); refine goesL_ (some 23) rfl rfl Tryd.func26 (by kernel_rfl) rfl #[.string a0] rfl (by (try simp only [List.map_toArray, List.map_cons, List.map_nil]); first | done | rfl | (simp only [List.length_drop, List.length_take]; rfl)) ?_; (with_reducible refine (targumref6_sign.calls a0 t449 t450 _ A2.out).mono ?_); rintro e w' ⟨rfl, ⟨nd, rfl⟩⟩; refine ⟨_, rfl, ?_⟩; (try (rw [drewN_self w5]; generalize hq_ : World.drewN w5 _ = w5; have n0_ : Aside0 (w5.heap[gb448]? = some (.cells #[.int .i64 0, .bool false, .string (⟨#[]⟩ : ByteArray), .string (⟨#[]⟩ : ByteArray)] 28 (0, 0))) := ⟨by rw [← hq_]; exact bk⟩; have n1_ : Aside0 (Below w.heap.size w w5) := ⟨by rw [← hq_]; exact bl⟩; clear BK448 HB hq_; have BK448 := n0_; have HB := n1_; clear n0_ n1_))) | ((with_reducible refine gate_callee (f := 30) rfl ?_); refine goesL_ (some 34) rfl rfl Tryd.func30 (by kernel_rfl) rfl #[.string t449, .bool t450, .bool (decide (t449.size < a0.size))] rfl (by (try simp only [List.map_toArray, List.map_cons, List.map_nil]); first | done | rfl | (simp only [List.length_drop, List.length_take]; rfl)) ?_; (with_reducible refine (targumref6_odd.calls k t449 t450 (decide (t449.size < a0.size)) t451 t452 t453 t454 true _ A3.out).mono ?_); rintro e w6 ⟨rfl, hb⟩; refine ⟨_, rfl, ?_⟩; have n0_ := Aside0.mk (blk_below (g := gb448) (o := .cells #[.int .i64 0, .bool false, .string (⟨#[]⟩ : ByteArray), .string (⟨#[]⟩ : ByteArray)] 28 (0, 0)) bk hb); have n1_ := Aside0.mk (below_step bl hb); clear BK448; clear HB; have BK448 := n0_; have HB := n1_; clear n0_ n1_; (try clear hb); (try clear hb2); (try clear hk); (try clear hi)) | ((with_reducible refine gate_dst (N := 6) rfl ?_); (try (refine gate_guard (by rfl) ?_; dsimp only)); refine box_event ?hg (N := 6) ?hd (cs := #[.int .i64 0, .bool false, .string (⟨#[]⟩ : ByteArray), .string (⟨#[]⟩ : ByteArray)]) (t := 28) ?hr ?_; (case hd => rfl); (case hg => rfl); (case hr => first | (go_simp; done) | (go_simp; rfl)); intro gb456 hg w7 hbox hb; have n0_ := Aside0.mk (blk_below (g := gb448) (o := .cells #[.int .i64 0, .bool false, .string (⟨#[]⟩ : ByteArray), .string (⟨#[]⟩ : ByteArray)] 28 (0, 0)) bk hb); have n1_ := Aside0.mk (below_step bl hb); have n2_ := Aside0.mk (hbox); have n3_ := Aside0.mk ((by rw [hg]; exact (below_size bl) : w.heap.size ≤ gb456)); have n4_ := Aside0.mk ((by rw [hg]; exact (below_size bl) : w.heap.size ≤ gb456)); have n5_ := Aside0.mk ((by rw [hg]; exact Nat.ne_of_lt (blk_lt (g := gb448) (o := .cells #[.int .i64 0, .bool false, .string (⟨#[]⟩ : ByteArray), .string (⟨#[]⟩ : ByteArray)] 28 (0, 0)) bk) : gb448 ≠ gb456)); have n6_ := Aside0.mk ((by rw [hg]; exact Nat.ne_of_gt (blk_lt (g := gb448) (o := .cells #[.int .i64 0, .bool false, .string (⟨#[]⟩ : ByteArray), .string (⟨#[]⟩ : ByteArray)] 28 (0, 0)) bk) : gb456 ≠ gb448)); clear BK448; clear HB; have BK448 := n0_; have HB := n1_; have BK456 := n2_; have GW456 := n3_; have GE456 := n4_; have NB448_456 := n5_; have NB456_448 := n6_; clear n0_ n1_ n2_ n3_ n4_ n5_ n6_; clear hb hbox hg; have hnb8 := NB456_448.out; have hnc8 := NB448_456.out; have hcz9_0 : w7.cell? ⟨gb456, 0, none⟩ = some (.int .i64 0) := (blk_cell BK456.out 0).trans rfl; have hcz9_1 : w7.cell? ⟨gb456, 1, none⟩ = some (.bool false) := (blk_cell BK456.out 1).trans rfl; have hcz9_2 : w7.cell? ⟨gb456, 2, none⟩ = some (.string (⟨#[]⟩ : ByteArray)) := (blk_cell BK456.out 2).trans rfl; have hcz9_3 : w7.cell? ⟨gb456, 3, none⟩ = some (.string (⟨#[]⟩ : ByteArray)) := (blk_cell BK456.out 3).trans rfl; have hfz9_0 := blk_frozen BK456.out 0; have hfz9_1 := blk_frozen BK456.out 1; have hfz9_2 := blk_frozen BK456.out 2; have hfz9_3 := blk_frozen BK456.out 3))
  have n0_ : Aside0 (((((w7.setCell ⟨gb456, 0, none⟩ (.int .i64 t451)).setCell ⟨gb456, 1, none⟩ (.bool t452)).setCell ⟨gb456, 2, none⟩ (.string t453)).setCell ⟨gb456, 3, none⟩ (.string t454)).heap[gb448]? = some (.cells #[.int .i64 0, .bool false, .string (⟨#[]⟩ : ByteArray), .string (⟨#[]⟩ : ByteArray)] 28 (0, 0))) := ⟨by (with_reducible repeat (first | refine blk_drewN ?_ _ | refine blk_drew ?_ | refine blk_alloc ?_ _)); refine blk_far ?_ NB448_456.out _; (with_reducible repeat (first | refine blk_drewN ?_ _ | refine blk_drew ?_ | refine blk_alloc ?_ _)); refine blk_far ?_ NB448_456.out _; (with_reducible repeat (first | refine blk_drewN ?_ _ | refine blk_drew ?_ | refine blk_alloc ?_ _)); refine blk_far ?_ NB448_456.out _; (with_reducible repeat (first | refine blk_drewN ?_ _ | refine blk_drew ?_ | refine blk_alloc ?_ _)); refine blk_far ?_ NB448_456.out _; (with_reducible repeat (first | refine blk_drewN ?_ _ | refine blk_drew ?_ | refine blk_alloc ?_ _)); exact BK448.out⟩
  have n1_ : Aside0 (((((w7.setCell ⟨gb456, 0, none⟩ (.int .i64 t451)).setCell ⟨gb456, 1, none⟩ (.bool t452)).setCell ⟨gb456, 2, none⟩ (.string t453)).setCell ⟨gb456, 3, none⟩ (.string t454)).heap[gb456]? = some (.cells #[.int .i64 t451, .bool t452, .string t453, .string t454] 28 (0, 0))) := ⟨by (with_reducible repeat (first | refine blk_drewN ?_ _ | refine blk_drew ?_ | refine blk_alloc ?_ _)); refine blk_put (cs := #[.int .i64 t451, .bool t452, .string t453, .string (⟨#[]⟩ : ByteArray)]) ?_ 3 _ rfl; (with_reducible repeat (first | refine blk_drewN ?_ _ | refine blk_drew ?_ | refine blk_alloc ?_ _)); refine blk_put (cs := #[.int .i64 t451, .bool t452, .string (⟨#[]⟩ : ByteArray), .string (⟨#[]⟩ : ByteArray)]) ?_ 2 _ rfl; (with_reducible repeat (first | refine blk_drewN ?_ _ | refine blk_drew ?_ | refine blk_alloc ?_ _)); refine blk_put (cs := #[.int .i64 t451, .bool false, .string (⟨#[]⟩ : ByteArray), .string (⟨#[]⟩ : ByteArray)]) ?_ 1 _ rfl; (with_reducible repeat (first | refine blk_drewN ?_ _ | refine blk_drew ?_ | refine blk_alloc ?_ _)); refine blk_put (cs := #[.int .i64 0, .bool false, .string (⟨#[]⟩ : ByteArray), .string (⟨#[]⟩ : ByteArray)]) ?_ 0 _ rfl; (with_reducible repeat (first | refine blk_drewN ?_ _ | refine blk_drew ?_ | refine blk_alloc ?_ _)); exact BK456.out⟩
  have n2_ : Aside0 (Below w.heap.size w ((((w7.setCell ⟨gb456, 0, none⟩ (.int .i64 t451)).setCell ⟨gb456, 1, none⟩ (.bool t452)).setCell ⟨gb456, 2, none⟩ (.string t453)).setCell ⟨gb456, 3, none⟩ (.string t454))) := ⟨bl⟩
  (try clear BK448)
  (try clear BK456)
  (try clear HB)
  generalize ((((w7.setCell ⟨gb456, 0, none⟩ (.int .i64 t451)).setCell ⟨gb456, 1, none⟩ (.bool t452)).setCell ⟨gb456, 2, none⟩ (.string t453)).setCell ⟨gb456, 3, none⟩ (.string t454)) = w10 at n0_ n1_ n2_ ⊢
  have BK448 := n0_
  have BK456 := n1_
  have HB := n2_
  clear n0_ n1_ n2_
  have n0_ := Aside0.mk (blk_drew BK448.out)
  have n1_ := Aside0.mk (blk_drew BK456.out)
  have n2_ := Aside0.mk (below_drew1 HB.out)
  clear BK448
  clear BK456
  clear HB
  have BK448 := n0_
  have BK456 := n1_
  have HB := n2_
  clear n0_ n1_ n2_
  refine start_ (n := 7) (S := fun w' => w'.cell? ⟨gb456, 0, none⟩ = some (.int .i64 t451) ∧ w'.cell? ⟨gb456, 1, none⟩ = some (.bool t452) ∧ w'.cell? ⟨gb456, 2, none⟩ = some (.string t453) ∧ w'.cell? ⟨gb456, 3, none⟩ = some (.string t454)) (ds := []) #[false, false, false, false, false, false, false] (by kernel_rfl) rfl rfl ⟨(blk_cell BK456.out 0).trans rfl, (blk_cell BK456.out 1).trans rfl, (blk_cell BK456.out 2).trans rfl, (blk_cell BK456.out 3).trans rfl⟩ (fun hHeld => ?_)
  generalize w10.drew = w11 at BK448 BK456 HB hHeld ⊢
  refine pure_ (i := 1) (N := some 39) (v := ?_) (a' := ?_) #[false, true, false, false, false, false, false] rfl rfl (by kernel_rfl) (fun _ _ _ h => h) (Or.inl ⟨by rfl, ?_⟩) ?_ ?_
  rotate_left
  ·intro w'
   go_simp
   with_reducible rfl
  rotate_left
  ·simp only [Act.put, List.setIfInBounds_toArray, List.set_cons_zero, List.set_cons_succ, i64_w, i32_w]
   rfl
  refine take_ (i := 0) (N := some 38) (v := ?_) (a' := ?_) #[true, true, false, false, false, false, false] rfl rfl (by kernel_rfl) (fun _ _ _ h => h) (Or.inl ⟨by rfl, ?_⟩) hHeld ?_ ?_
  rotate_left
  ·rintro w' ⟨s0, s1, s2, s3⟩
   go_simp
   with_reducible rfl
  rotate_left
  ·simp only [Act.put, List.setIfInBounds_toArray, List.set_cons_zero, List.set_cons_succ, i64_w, i32_w]
   rfl
  refine take_ (i := 2) (N := some 40) (v := ?_) (a' := ?_) #[true, true, true, false, false, false, false] rfl rfl (by kernel_rfl) (fun _ _ _ h => h) (Or.inl ⟨by rfl, ?_⟩) hHeld ?_ ?_
  rotate_left
  ·rintro w' ⟨s0, s1, s2, s3⟩
   go_simp
   with_reducible rfl
  rotate_left
  ·simp only [Act.put, List.setIfInBounds_toArray, List.set_cons_zero, List.set_cons_succ, i64_w, i32_w]
   rfl
  refine pure_ (i := 3) (N := some 41) (v := ?_) (a' := ?_) #[true, true, true, true, false, false, false] rfl rfl (by kernel_rfl) (fun _ _ _ h => h) (Or.inl ⟨by rfl, ?_⟩) ?_ ?_
  rotate_left
  ·intro w'
   go_simp
   with_reducible rfl
  rotate_left
  ·simp only [Act.put, List.setIfInBounds_toArray, List.set_cons_zero, List.set_cons_succ, i64_w, i32_w]
   rfl
  refine pure_ (i := 4) (N := some 42) (v := ?_) (a' := ?_) #[true, true, true, true, true, false, false] rfl rfl (by kernel_rfl) (fun _ _ _ h => h) (Or.inl ⟨by rfl, ?_⟩) ?_ ?_
  rotate_left
  ·intro w'
   go_simp
   with_reducible rfl
  rotate_left
  ·simp only [Act.put, List.setIfInBounds_toArray, List.set_cons_zero, List.set_cons_succ, i64_w, i32_w]
   rfl
  refine one_ (i := 5) (N := none) #[true, true, true, true, true, true, false] rfl rfl (by kernel_rfl) (by decide) (fun K hK => ?_)
  have hs12 : w11.cell? ⟨gb448, 0, none⟩ = some (.int .i64 0) := (blk_cell BK448.out 0).trans rfl
  have hfs12 := blk_frozen BK448.out 0
  have hns12_1 := NB456_448.out
  have hms12_1 := NB448_456.out
  have hs13 : w11.cell? ⟨gb448, 1, none⟩ = some (.bool false) := (blk_cell BK448.out 1).trans rfl
  have hfs13 := blk_frozen BK448.out 1
  have hns13_1 := NB456_448.out
  have hms13_1 := NB448_456.out
  have hs14 : w11.cell? ⟨gb448, 2, none⟩ = some (.string (⟨#[]⟩ : ByteArray)) := (blk_cell BK448.out 2).trans rfl
  have hfs14 := blk_frozen BK448.out 2
  have hns14_1 := NB456_448.out
  have hms14_1 := NB448_456.out
  have hs15 : w11.cell? ⟨gb448, 3, none⟩ = some (.string (⟨#[]⟩ : ByteArray)) := (blk_cell BK448.out 3).trans rfl
  have hfs15 := blk_frozen BK448.out 3
  have hns15_1 := NB456_448.out
  have hms15_1 := NB448_456.out
  refine skip_ (w1 := ?_) (by rfl) rfl ?_ ?_
  rotate_left
  ·go_simp
   rfl
  refine hK.out _ _ ⟨((cell_far (p := ⟨gb448, _, none⟩) NB456_448.out _).trans (((cell_far (p := ⟨gb448, _, none⟩) NB456_448.out _).trans (((cell_far (p := ⟨gb448, _, none⟩) NB456_448.out _).trans (((cell_far (p := ⟨gb448, _, none⟩) NB456_448.out _).trans (hHeld.1)))))))), ((cell_far (p := ⟨gb448, _, none⟩) NB456_448.out _).trans (((cell_far (p := ⟨gb448, _, none⟩) NB456_448.out _).trans (((cell_far (p := ⟨gb448, _, none⟩) NB456_448.out _).trans (((cell_far (p := ⟨gb448, _, none⟩) NB456_448.out _).trans (hHeld.2.1)))))))), ((cell_far (p := ⟨gb448, _, none⟩) NB456_448.out _).trans (((cell_far (p := ⟨gb448, _, none⟩) NB456_448.out _).trans (((cell_far (p := ⟨gb448, _, none⟩) NB456_448.out _).trans (((cell_far (p := ⟨gb448, _, none⟩) NB456_448.out _).trans (hHeld.2.2.1)))))))), ((cell_far (p := ⟨gb448, _, none⟩) NB456_448.out _).trans (((cell_far (p := ⟨gb448, _, none⟩) NB456_448.out _).trans (((cell_far (p := ⟨gb448, _, none⟩) NB456_448.out _).trans (((cell_far (p := ⟨gb448, _, none⟩) NB456_448.out _).trans (hHeld.2.2.2))))))))⟩ (fun hHeld => ?_)
  clear hK K
  refine pure_ (i := 6) (N := some 3) (v := ?_) (a' := ?_) #[true, true, true, true, true, true, true] rfl rfl (by kernel_rfl) (fun _ _ _ h => h) (Or.inl ⟨by rfl, ?_⟩) ?_ ?_
  rotate_left
  ·intro w'
   go_simp
   with_reducible rfl
  rotate_left
  ·simp only [Act.put, List.setIfInBounds_toArray, List.set_cons_zero, List.set_cons_succ, i64_w, i32_w]
   rfl
  refine done_ (by kernel_rfl) ?_
  try go_wp2
  refine bodyPost_ret (results_ct rfl _ _ gb448 28 #[.int .i64 t451, .bool t452, .string t453, .string t454] (0, 0) _ rfl bk Tryd.underlying28 rfl (by kernel_rfl)) rfl ?_
  exact ⟨by first | rfl | (simp [errW_none, errW_some] <;> rfl) | (simp [*, errW_none, errW_some] <;> rfl), bl⟩
 ·replace c4 := Bool.eq_false_iff.mpr c4
  subst c4
  have H1 : ((targumref6_find.f k t449 46).bind fun t457 => (if t457 < 0 then (some (0, false, (⟨#[]⟩ : ByteArray), (⟨#[]⟩ : ByteArray), 0)) else (if 0 ≤ (wrap64 (t457 + 1)) then (if (wrap64 (t457 + 1)) ≤ (t449.size : Int) then (targumref6_Float11.l0 k t449 t450 t457 (t449.extract ((wrap64 (t457 + 1)) : Int).toNat t449.size) 0) else (none)) else (none)))) = some (r1, r2, r3, r4, r5) := by rw [if_neg (show ¬ (false = true) by decide)] at H; exact H
  clear H
  have H := H1
  clear H1
  replace H := Option.bind_eq_some_iff.mp H
  obtain ⟨t457, A160, H⟩ := H
  replace H : (if t457 < 0 then (some (0, false, (⟨#[]⟩ : ByteArray), (⟨#[]⟩ : ByteArray), 0)) else (if 0 ≤ (wrap64 (t457 + 1)) then (if (wrap64 (t457 + 1)) ≤ (t449.size : Int) then (targumref6_Float11.l0 k t449 t450 t457 (t449.extract ((wrap64 (t457 + 1)) : Int).toNat t449.size) 0) else (none)) else (none))) = some (r1, r2, r3, r4, r5) := H
  have A16 := Aside0.mk A160
  clear A160
  by_cases c17 : t457 < 0
  ·rw [if_pos c17] at H
   have c17b0 : decide (t457 < 0) = true := decide_eq_true c17
   clear c17
   simp only [Option.some.injEq, Prod.mk.injEq] at H
   obtain ⟨rfl, rfl, rfl, rfl, rfl⟩ := H
   go_enter Tryd.func20, Tryd.ntmps20
   go_wp2_with (first | ((with_reducible refine gate_dst (N := 2) rfl ?_); (try (refine gate_guard (by rfl) ?_; dsimp only)); refine box_event ?hg (N := 2) ?hd (cs := #[.int .i64 0, .bool false, .string (⟨#[]⟩ : ByteArray), .string (⟨#[]⟩ : ByteArray)]) (t := 28) ?hr ?_; (case hd => rfl); (case hg => rfl); (case hr => first | (go_simp; done) | (go_simp; rfl)); intro gb448 hg w18 hbox hb; have n0_ := Aside0.mk (below_step bl hb); have n1_ := Aside0.mk (hbox); have n2_ := Aside0.mk ((by rw [hg]; exact (below_size bl) : w.heap.size ≤ gb448)); have n3_ := Aside0.mk ((by rw [hg]; exact (below_size bl) : w.heap.size ≤ gb448)); clear HB; have HB := n0_; have BK448 := n1_; have GW448 := n2_; have GE448 := n3_; clear n0_ n1_ n2_ n3_; clear hb hbox hg) | ((with_reducible refine gate_callee (f := 26) rfl ?_); refine goesL_ (some 23) rfl rfl Tryd.func26 (by kernel_rfl) rfl #[.string a0] rfl (by (try simp only [List.map_toArray, List.map_cons, List.map_nil]); first | done | rfl | (simp only [List.length_drop, List.length_take]; rfl)) ?_; (with_reducible refine (targumref6_sign.calls a0 t449 t450 _ A2.out).mono ?_); rintro e w' ⟨rfl, ⟨nd, rfl⟩⟩; refine ⟨_, rfl, ?_⟩; (try (rw [drewN_self w18]; generalize hq_ : World.drewN w18 _ = w18; have n0_ : Aside0 (w18.heap[gb448]? = some (.cells #[.int .i64 0, .bool false, .string (⟨#[]⟩ : ByteArray), .string (⟨#[]⟩ : ByteArray)] 28 (0, 0))) := ⟨by rw [← hq_]; exact bk⟩; have n1_ : Aside0 (Below w.heap.size w w18) := ⟨by rw [← hq_]; exact bl⟩; clear BK448 HB hq_; have BK448 := n0_; have HB := n1_; clear n0_ n1_))) | ((with_reducible refine gate_callee (f := 30) rfl ?_); refine goesL_ (some 34) rfl rfl Tryd.func30 (by kernel_rfl) rfl #[.string t449, .bool t450, .bool (decide (t449.size < a0.size))] rfl (by (try simp only [List.map_toArray, List.map_cons, List.map_nil]); first | done | rfl | (simp only [List.length_drop, List.length_take]; rfl)) ?_; (with_reducible refine (targumref6_odd.calls k t449 t450 (decide (t449.size < a0.size)) t451 t452 t453 t454 false _ A3.out).mono ?_); rintro e w19 ⟨rfl, hb⟩; refine ⟨_, rfl, ?_⟩; have n0_ := Aside0.mk (blk_below (g := gb448) (o := .cells #[.int .i64 0, .bool false, .string (⟨#[]⟩ : ByteArray), .string (⟨#[]⟩ : ByteArray)] 28 (0, 0)) bk hb); have n1_ := Aside0.mk (below_step bl hb); clear BK448; clear HB; have BK448 := n0_; have HB := n1_; clear n0_ n1_; (try clear hb); (try clear hb2); (try clear hk); (try clear hi)) | ((with_reducible refine gate_dst (N := 6) rfl ?_); (try (refine gate_guard (by rfl) ?_; dsimp only)); refine box_event ?hg (N := 6) ?hd (cs := #[.int .i64 0, .bool false, .string (⟨#[]⟩ : ByteArray), .string (⟨#[]⟩ : ByteArray)]) (t := 28) ?hr ?_; (case hd => rfl); (case hg => rfl); (case hr => first | (go_simp; done) | (go_simp; rfl)); intro gb456 hg w20 hbox hb; have n0_ := Aside0.mk (blk_below (g := gb448) (o := .cells #[.int .i64 0, .bool false, .string (⟨#[]⟩ : ByteArray), .string (⟨#[]⟩ : ByteArray)] 28 (0, 0)) bk hb); have n1_ := Aside0.mk (below_step bl hb); have n2_ := Aside0.mk (hbox); have n3_ := Aside0.mk ((by rw [hg]; exact (below_size bl) : w.heap.size ≤ gb456)); have n4_ := Aside0.mk ((by rw [hg]; exact (below_size bl) : w.heap.size ≤ gb456)); have n5_ := Aside0.mk ((by rw [hg]; exact Nat.ne_of_lt (blk_lt (g := gb448) (o := .cells #[.int .i64 0, .bool false, .string (⟨#[]⟩ : ByteArray), .string (⟨#[]⟩ : ByteArray)] 28 (0, 0)) bk) : gb448 ≠ gb456)); have n6_ := Aside0.mk ((by rw [hg]; exact Nat.ne_of_gt (blk_lt (g := gb448) (o := .cells #[.int .i64 0, .bool false, .string (⟨#[]⟩ : ByteArray), .string (⟨#[]⟩ : ByteArray)] 28 (0, 0)) bk) : gb456 ≠ gb448)); clear BK448; clear HB; have BK448 := n0_; have HB := n1_; have BK456 := n2_; have GW456 := n3_; have GE456 := n4_; have NB448_456 := n5_; have NB456_448 := n6_; clear n0_ n1_ n2_ n3_ n4_ n5_ n6_; clear hb hbox hg; have hnb21 := NB456_448.out; have hnc21 := NB448_456.out; have hcz22_0 : w20.cell? ⟨gb456, 0, none⟩ = some (.int .i64 0) := (blk_cell BK456.out 0).trans rfl; have hcz22_1 : w20.cell? ⟨gb456, 1, none⟩ = some (.bool false) := (blk_cell BK456.out 1).trans rfl; have hcz22_2 : w20.cell? ⟨gb456, 2, none⟩ = some (.string (⟨#[]⟩ : ByteArray)) := (blk_cell BK456.out 2).trans rfl; have hcz22_3 : w20.cell? ⟨gb456, 3, none⟩ = some (.string (⟨#[]⟩ : ByteArray)) := (blk_cell BK456.out 3).trans rfl; have hfz22_0 := blk_frozen BK456.out 0; have hfz22_1 := blk_frozen BK456.out 1; have hfz22_2 := blk_frozen BK456.out 2; have hfz22_3 := blk_frozen BK456.out 3) | ((with_reducible refine gate_callee (f := 41) rfl ?_); refine goesL_ (some 44) rfl rfl Tryd.func41 (by kernel_rfl) rfl #[.string t449, .int .u8 46] rfl (by (try simp only [List.map_toArray, List.map_cons, List.map_nil]); first | done | rfl | (simp only [List.length_drop, List.length_take]; rfl)) ?_; (with_reducible refine (targumref6_find.calls k t449 46 t457 _ A16.out).mono ?_); rintro e w' ⟨rfl, ⟨nd, rfl⟩⟩; refine ⟨_, rfl, ?_⟩; have hcz23_0 : w20.cell? ⟨gb448, 0, none⟩ = some (.int .i64 0) := (blk_cell BK448.out 0).trans rfl; have hcz23_1 : w20.cell? ⟨gb448, 1, none⟩ = some (.bool false) := (blk_cell BK448.out 1).trans rfl; have hcz23_2 : w20.cell? ⟨gb448, 2, none⟩ = some (.string (⟨#[]⟩ : ByteArray)) := (blk_cell BK448.out 2).trans rfl; have hcz23_3 : w20.cell? ⟨gb448, 3, none⟩ = some (.string (⟨#[]⟩ : ByteArray)) := (blk_cell BK448.out 3).trans rfl; have hfz23_0 := blk_frozen BK448.out 0; have hfz23_1 := blk_frozen BK448.out 1; have hfz23_2 := blk_frozen BK448.out 2; have hfz23_3 := blk_frozen BK448.out 3))
   refine bodyPost_ret (results_ct rfl _ _ gb448 28 #[.int .i64 0, .bool false, .string (⟨#[]⟩ : ByteArray), .string (⟨#[]⟩ : ByteArray)] (0, 0) _ rfl bk Tryd.underlying28 rfl (by kernel_rfl)) rfl ?_
   exact ⟨by first | rfl | (simp [errW_none, errW_some] <;> rfl) | (simp [*, errW_none, errW_some] <;> rfl), bl⟩
  ·rw [if_neg c17] at H
   have c17b0 : decide (t457 < 0) = false := decide_eq_false c17
   clear c17
   obtain ⟨ji24, hji24⟩ : ∃ j_ : Int, (wrap64 (t457 + 1)) = j_ := ⟨_, rfl⟩
   replace H : (if 0 ≤ (ji24) then (if (ji24) ≤ (t449.size : Int) then (targumref6_Float11.l0 k t449 t450 t457 (t449.extract ((ji24) : Int).toNat t449.size) 0) else (none)) else (none)) = some (r1, r2, r3, r4, r5) := by first | (rw [hji24] at H; exact H) | (simp only [hji24] at H ⊢; exact H)
   (try rw [hji24] at A2)
   (try rw [hji24] at A3)
   (try rw [hji24] at A16)
   have hji24w : (IntKind.i64.wrap (t457 + 1)) = ji24 := (i64_w _).trans hji24
   by_cases c25 : 0 ≤ (ji24)
   ·rw [if_pos c25] at H
    have c25b0 := eq_true c25
    have c25b1 : decide (0 ≤ (ji24)) = true := decide_eq_true c25
    clear c25
    by_cases c26 : (ji24) ≤ (t449.size : Int)
    ·rw [if_pos c26] at H
     have c26b0 := eq_true c26
     have c26b1 : decide ((ji24) ≤ (t449.size : Int)) = true := decide_eq_true c26
     clear c26
     have HC27 := Aside0.mk H
     clear H
     go_enter Tryd.func20, Tryd.ntmps20
     go_upto_block 0 with (first | ((with_reducible refine gate_dst (N := 2) rfl ?_); (try (refine gate_guard (by rfl) ?_; dsimp only)); refine box_event ?hg (N := 2) ?hd (cs := #[.int .i64 0, .bool false, .string (⟨#[]⟩ : ByteArray), .string (⟨#[]⟩ : ByteArray)]) (t := 28) ?hr ?_; (case hd => rfl); (case hg => rfl); (case hr => first | (go_simp; done) | (go_simp; rfl)); intro gb448 hg w28 hbox hb; have n0_ := Aside0.mk (below_step bl hb); have n1_ := Aside0.mk (hbox); have n2_ := Aside0.mk ((by rw [hg]; exact (below_size bl) : w.heap.size ≤ gb448)); have n3_ := Aside0.mk ((by rw [hg]; exact (below_size bl) : w.heap.size ≤ gb448)); clear HB; have HB := n0_; have BK448 := n1_; have GW448 := n2_; have GE448 := n3_; clear n0_ n1_ n2_ n3_; clear hb hbox hg) | ((with_reducible refine gate_callee (f := 26) rfl ?_); refine goesL_ (some 23) rfl rfl Tryd.func26 (by kernel_rfl) rfl #[.string a0] rfl (by (try simp only [List.map_toArray, List.map_cons, List.map_nil]); first | done | rfl | (simp only [List.length_drop, List.length_take]; rfl)) ?_; (with_reducible refine (targumref6_sign.calls a0 t449 t450 _ A2.out).mono ?_); rintro e w' ⟨rfl, ⟨nd, rfl⟩⟩; refine ⟨_, rfl, ?_⟩; (try (rw [drewN_self w28]; generalize hq_ : World.drewN w28 _ = w28; have n0_ : Aside0 (w28.heap[gb448]? = some (.cells #[.int .i64 0, .bool false, .string (⟨#[]⟩ : ByteArray), .string (⟨#[]⟩ : ByteArray)] 28 (0, 0))) := ⟨by rw [← hq_]; exact bk⟩; have n1_ : Aside0 (Below w.heap.size w w28) := ⟨by rw [← hq_]; exact bl⟩; clear BK448 HB hq_; have BK448 := n0_; have HB := n1_; clear n0_ n1_))) | ((with_reducible refine gate_callee (f := 30) rfl ?_); refine goesL_ (some 34) rfl rfl Tryd.func30 (by kernel_rfl) rfl #[.string t449, .bool t450, .bool (decide (t449.size < a0.size))] rfl (by (try simp only [List.map_toArray, List.map_cons, List.map_nil]); first | done | rfl | (simp only [List.length_drop, List.length_take]; rfl)) ?_; (with_reducible refine (targumref6_odd.calls k t449 t450 (decide (t449.size < a0.size)) t451 t452 t453 t454 false _ A3.out).mono ?_); rintro e w29 ⟨rfl, hb⟩; refine ⟨_, rfl, ?_⟩; have n0_ := Aside0.mk (blk_below (g := gb448) (o := .cells #[.int .i64 0, .bool false, .string (⟨#[]⟩ : ByteArray), .string (⟨#[]⟩ : ByteArray)] 28 (0, 0)) bk hb); have n1_ := Aside0.mk (below_step bl hb); clear BK448; clear HB; have BK448 := n0_; have HB := n1_; clear n0_ n1_; (try clear hb); (try clear hb2); (try clear hk); (try clear hi)) | ((with_reducible refine gate_dst (N := 6) rfl ?_); (try (refine gate_guard (by rfl) ?_; dsimp only)); refine box_event ?hg (N := 6) ?hd (cs := #[.int .i64 0, .bool false, .string (⟨#[]⟩ : ByteArray), .string (⟨#[]⟩ : ByteArray)]) (t := 28) ?hr ?_; (case hd => rfl); (case hg => rfl); (case hr => first | (go_simp; done) | (go_simp; rfl)); intro gb456 hg w30 hbox hb; have n0_ := Aside0.mk (blk_below (g := gb448) (o := .cells #[.int .i64 0, .bool false, .string (⟨#[]⟩ : ByteArray), .string (⟨#[]⟩ : ByteArray)] 28 (0, 0)) bk hb); have n1_ := Aside0.mk (below_step bl hb); have n2_ := Aside0.mk (hbox); have n3_ := Aside0.mk ((by rw [hg]; exact (below_size bl) : w.heap.size ≤ gb456)); have n4_ := Aside0.mk ((by rw [hg]; exact (below_size bl) : w.heap.size ≤ gb456)); have n5_ := Aside0.mk ((by rw [hg]; exact Nat.ne_of_lt (blk_lt (g := gb448) (o := .cells #[.int .i64 0, .bool false, .string (⟨#[]⟩ : ByteArray), .string (⟨#[]⟩ : ByteArray)] 28 (0, 0)) bk) : gb448 ≠ gb456)); have n6_ := Aside0.mk ((by rw [hg]; exact Nat.ne_of_gt (blk_lt (g := gb448) (o := .cells #[.int .i64 0, .bool false, .string (⟨#[]⟩ : ByteArray), .string (⟨#[]⟩ : ByteArray)] 28 (0, 0)) bk) : gb456 ≠ gb448)); clear BK448; clear HB; have BK448 := n0_; have HB := n1_; have BK456 := n2_; have GW456 := n3_; have GE456 := n4_; have NB448_456 := n5_; have NB456_448 := n6_; clear n0_ n1_ n2_ n3_ n4_ n5_ n6_; clear hb hbox hg; have hnb31 := NB456_448.out; have hnc31 := NB448_456.out; have hcz32_0 : w30.cell? ⟨gb456, 0, none⟩ = some (.int .i64 0) := (blk_cell BK456.out 0).trans rfl; have hcz32_1 : w30.cell? ⟨gb456, 1, none⟩ = some (.bool false) := (blk_cell BK456.out 1).trans rfl; have hcz32_2 : w30.cell? ⟨gb456, 2, none⟩ = some (.string (⟨#[]⟩ : ByteArray)) := (blk_cell BK456.out 2).trans rfl; have hcz32_3 : w30.cell? ⟨gb456, 3, none⟩ = some (.string (⟨#[]⟩ : ByteArray)) := (blk_cell BK456.out 3).trans rfl; have hfz32_0 := blk_frozen BK456.out 0; have hfz32_1 := blk_frozen BK456.out 1; have hfz32_2 := blk_frozen BK456.out 2; have hfz32_3 := blk_frozen BK456.out 3) | ((with_reducible refine gate_callee (f := 41) rfl ?_); refine goesL_ (some 44) rfl rfl Tryd.func41 (by kernel_rfl) rfl #[.string t449, .int .u8 46] rfl (by (try simp only [List.map_toArray, List.map_cons, List.map_nil]); first | done | rfl | (simp only [List.length_drop, List.length_take]; rfl)) ?_; (with_reducible refine (targumref6_find.calls k t449 46 t457 _ A16.out).mono ?_); rintro e w' ⟨rfl, ⟨nd, rfl⟩⟩; refine ⟨_, rfl, ?_⟩))
     (try simp only [Act.put, List.setIfInBounds_toArray, List.set_cons_zero, List.set_cons_succ])
     go_cut [10] (fun v10 wc => ∃ (kq : Nat) (x10_26 : Int), v10 = .int .i64 x10_26 ∧ Aside0 (targumref6_Float11.j1 kq t449 t450 t457 (t449.extract ((ji24) : Int).toNat t449.size) x10_26 = some (r1, r2, r3, r4, r5)) ∧ Aside0 (kq ≤ k) ∧ Aside0 (wc.heap[gb448]? = some (.cells #[.int .i64 0, .bool false, .string (⟨#[]⟩ : ByteArray), .string (⟨#[]⟩ : ByteArray)] 28 (0, 0))) ∧ Aside0 (wc.heap[gb456]? = some (.cells #[.int .i64 t451, .bool t452, .string t453, .string t454] 28 (0, 0))) ∧ Aside0 (Below w.heap.size w wc))
     case first =>
      have H := HC27.out
      clear HC27
      have H' := Aside0.mk H
      clear H
      go_wp2
      go_loopg [10] k (fun kq v10 w' => ∃ (x10_1 : Int), v10 = .int .i64 x10_1 ∧ Aside0 (targumref6_Float11.l0 kq t449 t450 t457 (t449.extract ((ji24) : Int).toNat t449.size) x10_1 = some (r1, r2, r3, r4, r5)) ∧ Aside0 (kq ≤ k) ∧ Aside0 (w'.heap[gb448]? = some (.cells #[.int .i64 0, .bool false, .string (⟨#[]⟩ : ByteArray), .string (⟨#[]⟩ : ByteArray)] 28 (0, 0))) ∧ Aside0 (w'.heap[gb456]? = some (.cells #[.int .i64 t451, .bool t452, .string t453, .string t454] 28 (0, 0))) ∧ Aside0 (Below w.heap.size w w'))
      case atStart => exact ⟨(0), (by first | rfl | (simp; done) | (simp [*]; done) | (simp [wrap64]; done)), H', ⟨Nat.le_refl _⟩, ⟨by (with_reducible repeat (first | refine blk_drewN ?_ _ | refine blk_drew ?_ | refine blk_alloc ?_ _)); refine blk_far ?_ NB448_456.out _; (with_reducible repeat (first | refine blk_drewN ?_ _ | refine blk_drew ?_ | refine blk_alloc ?_ _)); refine blk_far ?_ NB448_456.out _; (with_reducible repeat (first | refine blk_drewN ?_ _ | refine blk_drew ?_ | refine blk_alloc ?_ _)); refine blk_far ?_ NB448_456.out _; (with_reducible repeat (first | refine blk_drewN ?_ _ | refine blk_drew ?_ | refine blk_alloc ?_ _)); refine blk_far ?_ NB448_456.out _; (with_reducible repeat (first | refine blk_drewN ?_ _ | refine blk_drew ?_ | refine blk_alloc ?_ _)); exact BK448.out⟩, ⟨by (with_reducible repeat (first | refine blk_drewN ?_ _ | refine blk_drew ?_ | refine blk_alloc ?_ _)); refine blk_put (cs := #[.int .i64 t451, .bool t452, .string t453, .string (⟨#[]⟩ : ByteArray)]) ?_ 3 _ rfl; (with_reducible repeat (first | refine blk_drewN ?_ _ | refine blk_drew ?_ | refine blk_alloc ?_ _)); refine blk_put (cs := #[.int .i64 t451, .bool t452, .string (⟨#[]⟩ : ByteArray), .string (⟨#[]⟩ : ByteArray)]) ?_ 2 _ rfl; (with_reducible repeat (first | refine blk_drewN ?_ _ | refine blk_drew ?_ | refine blk_alloc ?_ _)); refine blk_put (cs := #[.int .i64 t451, .bool false, .string (⟨#[]⟩ : ByteArray), .string (⟨#[]⟩ : ByteArray)]) ?_ 1 _ rfl; (with_reducible repeat (first | refine blk_drewN ?_ _ | refine blk_drew ?_ | refine blk_alloc ?_ _)); refine blk_put (cs := #[.int .i64 0, .bool false, .string (⟨#[]⟩ : ByteArray), .string (⟨#[]⟩ : ByteArray)]) ?_ 0 _ rfl; (with_reducible repeat (first | refine blk_drewN ?_ _ | refine blk_drew ?_ | refine blk_alloc ?_ _)); exact BK456.out⟩, ⟨bl⟩⟩
      case round =>
       clear H'
       try clear c1; try clear c2; try clear p2; try clear c3; try clear c4; try clear p6; try clear c8; try clear c17; try clear c17b0; try clear c20; try clear c21; try clear c25; try clear c25b0; try clear c25b1; try clear c26; try clear c26b0; try clear c26b1; try clear c30; try clear c31; try clear hcz22_0; try clear hcz22_1; try clear hcz22_2; try clear hcz22_3; try clear hcz23_0; try clear hcz23_1; try clear hcz23_2; try clear hcz23_3; try clear hcz32_0; try clear hcz32_1; try clear hcz32_2; try clear hcz32_3; try clear hcz9_0; try clear hcz9_1; try clear hcz9_2; try clear hcz9_3; try clear hfz22_0; try clear hfz22_1; try clear hfz22_2; try clear hfz22_3; try clear hfz23_0; try clear hfz23_1; try clear hfz23_2; try clear hfz23_3; try clear hfz32_0; try clear hfz32_1; try clear hfz32_2; try clear hfz32_3; try clear hfz9_0; try clear hfz9_1; try clear hfz9_2; try clear hfz9_3
       obtain ⟨x10_1, rfl, HA, HK1, BK448, BK456, HB⟩ := hrel
       cases gk with
       | zero => exact absurd HA.out (by simp [targumref6_Float11.l0])
       | succ k1 =>
        have H := HA.out
        clear HA
        simp only [targumref6_Float11.l0] at H
        by_cases c33 : x10_1 < ((t449.extract ((ji24) : Int).toNat t449.size).size : Int)
        ·rw [if_pos c33] at H
         have c33b0 : decide (x10_1 < ((t449.extract ((ji24) : Int).toNat t449.size).size : Int)) = true := decide_eq_true c33
         (try (have c33b1 : decide (x10_1 < ((t449.size - ((ji24) : Int).toNat : Nat) : Int)) = true := decide_eq_true (by have h_ := c33; simp only [ByteArray.size_extract, Nat.min_self] at h_; omega)))
         clear c33
         (first | rw [c33b0] | (simp only [i64_w, i32_w]; rw [c33b0]) | skip)
         by_cases c34 : 0 ≤ x10_1
         ·rw [if_pos c34] at H
          have c34b0 : decide (0 ≤ x10_1) = true := decide_eq_true c34
          clear c34
          replace H := Option.bind_eq_some_iff.mp H
          obtain ⟨t458, A360, H⟩ := H
          replace H : (if t458 = true then (targumref6_Float11.l0 k1 t449 t450 t457 (t449.extract ((ji24) : Int).toNat t449.size) (wrap64 (x10_1 + 1))) else (if (bt (t449.extract ((ji24) : Int).toNat t449.size) x10_1) = 95 then (targumref6_Float11.l0 k1 t449 t450 t457 (t449.extract ((ji24) : Int).toNat t449.size) (wrap64 (x10_1 + 1))) else (targumref6_Float11.j1 k1 t449 t450 t457 (t449.extract ((ji24) : Int).toNat t449.size) x10_1))) = some (r1, r2, r3, r4, r5) := H
          have A36 := Aside0.mk A360
          clear A360
          by_cases c37 : t458 = true
          ·subst c37
           have H1 : (targumref6_Float11.l0 k1 t449 t450 t457 (t449.extract ((ji24) : Int).toNat t449.size) (wrap64 (x10_1 + 1))) = some (r1, r2, r3, r4, r5) := by rw [if_pos rfl] at H; exact H
           clear H
           have H := H1
           clear H1
           have H' := Aside0.mk H
           clear H
           have p35 : 0 ≤ (x10_1 : Int) := of_decide_eq_true (by first | (with_reducible assumption) | assumption)
           have q35 : x10_1 < ((t449.extract ((ji24) : Int).toNat t449.size).size : Int) := of_decide_eq_true (by first | (with_reducible assumption) | assumption)
           have hx35 := bt_at (t449.extract ((ji24) : Int).toNat t449.size) x10_1
           replace p35 := eq_true p35
           replace q35 := eq_true q35
           (try have qe35 : (x10_1 < ((t449.size - ((ji24) : Int).toNat : Nat) : Int)) = True := eq_true (by have h_ := of_eq_true q35; simp only [ByteArray.size_extract, Nat.min_self] at h_; omega))
           go_wp2_with (first | (go_at_call 31; (try (rename_i hK_; simp only [List.append] at hK_)); (with_reducible refine (targumref4_IsDigit.calls (bt (t449.extract ((ji24) : Int).toNat t449.size) x10_1) true _ A36.out).mono ?_); rintro e w' ⟨rfl, ⟨nd, rfl⟩⟩))
           go_roundg k1
           case measure => have := HK1.out; omega
           case rel => exact ⟨(wrap64 (x10_1 + 1)), (by first | rfl | (simp; done) | (simp [*]; done) | (simp [wrap64]; done)), H', ⟨by have := HK1.out; omega⟩, ⟨by (with_reducible repeat (first | refine blk_drewN ?_ _ | refine blk_drew ?_ | refine blk_alloc ?_ _)); exact BK448.out⟩, ⟨by (with_reducible repeat (first | refine blk_drewN ?_ _ | refine blk_drew ?_ | refine blk_alloc ?_ _)); exact BK456.out⟩, ⟨bl⟩⟩
          ·replace c37 := Bool.eq_false_iff.mpr c37
           subst c37
           have H1 : (if (bt (t449.extract ((ji24) : Int).toNat t449.size) x10_1) = 95 then (targumref6_Float11.l0 k1 t449 t450 t457 (t449.extract ((ji24) : Int).toNat t449.size) (wrap64 (x10_1 + 1))) else (targumref6_Float11.j1 k1 t449 t450 t457 (t449.extract ((ji24) : Int).toNat t449.size) x10_1)) = some (r1, r2, r3, r4, r5) := by rw [if_neg (show ¬ (false = true) by decide)] at H; exact H
           clear H
           have H := H1
           clear H1
           by_cases c39 : (bt (t449.extract ((ji24) : Int).toNat t449.size) x10_1) = 95
           ·rw [if_pos c39] at H
            have c39b0 : ((bt (t449.extract ((ji24) : Int).toNat t449.size) x10_1) == 95) = true := beq_iff_eq.mpr c39
            have c39b1 : ((bt (t449.extract ((ji24) : Int).toNat t449.size) x10_1) != 95) = false := bne_eq_false_iff_eq.mpr c39
            clear c39
            have H' := Aside0.mk H
            clear H
            have p35 : 0 ≤ (x10_1 : Int) := of_decide_eq_true (by first | (with_reducible assumption) | assumption)
            have q35 : x10_1 < ((t449.extract ((ji24) : Int).toNat t449.size).size : Int) := of_decide_eq_true (by first | (with_reducible assumption) | assumption)
            have hx35 := bt_at (t449.extract ((ji24) : Int).toNat t449.size) x10_1
            replace p35 := eq_true p35
            replace q35 := eq_true q35
            (try have qe35 : (x10_1 < ((t449.size - ((ji24) : Int).toNat : Nat) : Int)) = True := eq_true (by have h_ := of_eq_true q35; simp only [ByteArray.size_extract, Nat.min_self] at h_; omega))
            go_wp2_with (first | (go_at_call 31; (try (rename_i hK_; simp only [List.append] at hK_)); (with_reducible refine (targumref4_IsDigit.calls (bt (t449.extract ((ji24) : Int).toNat t449.size) x10_1) false _ A36.out).mono ?_); rintro e w' ⟨rfl, ⟨nd, rfl⟩⟩; have p38 : 0 ≤ (x10_1 : Int) := of_decide_eq_true (by first | (with_reducible assumption) | assumption); have q38 : x10_1 < ((t449.extract ((ji24) : Int).toNat t449.size).size : Int) := of_decide_eq_true (by first | (with_reducible assumption) | assumption); have hx38 := bt_at (t449.extract ((ji24) : Int).toNat t449.size) x10_1; replace p38 := eq_true p38; replace q38 := eq_true q38; (try have qe38 : (x10_1 < ((t449.size - ((ji24) : Int).toNat : Nat) : Int)) = True := eq_true (by have h_ := of_eq_true q38; simp only [ByteArray.size_extract, Nat.min_self] at h_; omega))))
            go_roundg k1
            case measure => have := HK1.out; omega
            case rel => exact ⟨(wrap64 (x10_1 + 1)), (by first | rfl | (simp; done) | (simp [*]; done) | (simp [wrap64]; done)), H', ⟨by have := HK1.out; omega⟩, ⟨by (with_reducible repeat (first | refine blk_drewN ?_ _ | refine blk_drew ?_ | refine blk_alloc ?_ _)); exact BK448.out⟩, ⟨by (with_reducible repeat (first | refine blk_drewN ?_ _ | refine blk_drew ?_ | refine blk_alloc ?_ _)); exact BK456.out⟩, ⟨bl⟩⟩
           ·rw [if_neg c39] at H
            have c39b0 : ((bt (t449.extract ((ji24) : Int).toNat t449.size) x10_1) == 95) = false := beq_eq_false_iff_ne.mpr c39
            have c39b1 : ((bt (t449.extract ((ji24) : Int).toNat t449.size) x10_1) != 95) = true := bne_iff_ne.mpr c39
            have H' := Aside0.mk H
            clear H
            have p35 : 0 ≤ (x10_1 : Int) := of_decide_eq_true (by first | (with_reducible assumption) | assumption)
            have q35 : x10_1 < ((t449.extract ((ji24) : Int).toNat t449.size).size : Int) := of_decide_eq_true (by first | (with_reducible assumption) | assumption)
            have hx35 := bt_at (t449.extract ((ji24) : Int).toNat t449.size) x10_1
            replace p35 := eq_true p35
            replace q35 := eq_true q35
            (try have qe35 : (x10_1 < ((t449.size - ((ji24) : Int).toNat : Nat) : Int)) = True := eq_true (by have h_ := of_eq_true q35; simp only [ByteArray.size_extract, Nat.min_self] at h_; omega))
            go_wp2_with (first | (go_at_call 31; (try (rename_i hK_; simp only [List.append] at hK_)); (with_reducible refine (targumref4_IsDigit.calls (bt (t449.extract ((ji24) : Int).toNat t449.size) x10_1) false _ A36.out).mono ?_); rintro e w' ⟨rfl, ⟨nd, rfl⟩⟩; have p38 : 0 ≤ (x10_1 : Int) := of_decide_eq_true (by first | (with_reducible assumption) | assumption); have q38 : x10_1 < ((t449.extract ((ji24) : Int).toNat t449.size).size : Int) := of_decide_eq_true (by first | (with_reducible assumption) | assumption); have hx38 := bt_at (t449.extract ((ji24) : Int).toNat t449.size) x10_1; replace p38 := eq_true p38; replace q38 := eq_true q38; (try have qe38 : (x10_1 < ((t449.size - ((ji24) : Int).toNat : Nat) : Int)) = True := eq_true (by have h_ := of_eq_true q38; simp only [ByteArray.size_extract, Nat.min_self] at h_; omega))))
            go_meet
            case rel => exact ⟨_, (x10_1), (by first | rfl | (simp; done) | (simp [*]; done) | (simp [wrap64]; done)), H', ⟨by have := HK1.out; first | omega | exact Nat.le_refl _⟩, ⟨by (with_reducible repeat (first | refine blk_drewN ?_ _ | refine blk_drew ?_ | refine blk_alloc ?_ _)); exact BK448.out⟩, ⟨by (with_reducible repeat (first | refine blk_drewN ?_ _ | refine blk_drew ?_ | refine blk_alloc ?_ _)); exact BK456.out⟩, ⟨bl⟩⟩
         ·rw [if_neg c34] at H
          exact absurd H (by simp)
        ·rw [if_neg c33] at H
         have c33b0 : decide (x10_1 < ((t449.extract ((ji24) : Int).toNat t449.size).size : Int)) = false := decide_eq_false c33
         (try (have c33b1 : decide (x10_1 < ((t449.size - ((ji24) : Int).toNat : Nat) : Int)) = false := decide_eq_false (by have h_ := c33; simp only [ByteArray.size_extract, Nat.min_self] at h_; omega)))
         clear c33
         (first | rw [c33b0] | (simp only [i64_w, i32_w]; rw [c33b0]) | skip)
         have H' := Aside0.mk H
         clear H
         go_wp2
         go_meet
         case rel => exact ⟨_, (x10_1), (by first | rfl | (simp; done) | (simp [*]; done) | (simp [wrap64]; done)), H', ⟨by have := HK1.out; first | omega | exact Nat.le_refl _⟩, ⟨by (with_reducible repeat (first | refine blk_drewN ?_ _ | refine blk_drew ?_ | refine blk_alloc ?_ _)); exact BK448.out⟩, ⟨by (with_reducible repeat (first | refine blk_drewN ?_ _ | refine blk_drew ?_ | refine blk_alloc ?_ _)); exact BK456.out⟩, ⟨bl⟩⟩
     case rest =>
      clear HC27
      try clear c1; try clear c2; try clear p2; try clear c3; try clear p3; try clear q3; try clear hx3; try clear c4; try clear p6; try clear c8; try clear c17; try clear c17b0; try clear c20; try clear c21; try clear c25; try clear c25b0; try clear c25b1; try clear c26; try clear c26b0; try clear c26b1; try clear c30; try clear c31; try clear c33; try clear c33b0; try clear c33b1; try clear c34; try clear c34b0; try clear p35; try clear q35; try clear hx35; try clear c37; try clear p38; try clear q38; try clear hx38; try clear c39; try clear c39b0; try clear c39b1; try clear hcz22_0; try clear hcz22_1; try clear hcz22_2; try clear hcz22_3; try clear hcz23_0; try clear hcz23_1; try clear hcz23_2; try clear hcz23_3; try clear hcz32_0; try clear hcz32_1; try clear hcz32_2; try clear hcz32_3; try clear hcz9_0; try clear hcz9_1; try clear hcz9_2; try clear hcz9_3; try clear hfz22_0; try clear hfz22_1; try clear hfz22_2; try clear hfz22_3; try clear hfz23_0; try clear hfz23_1; try clear hfz23_2; try clear hfz23_3; try clear hfz32_0; try clear hfz32_1; try clear hfz32_2; try clear hfz32_3; try clear hfz9_0; try clear hfz9_1; try clear hfz9_2; try clear hfz9_3; try clear p2; try clear p35; try clear p38; try clear p6; try clear q35; try clear q38
      obtain ⟨kq, x10_26, rfl, HA, HJ26, BK448, BK456, HB⟩ := hcut
      cases kq with
      | zero => exact absurd HA.out (by simp [targumref6_Float11.j1])
      | succ kj26 =>
       have H := HA.out
       clear HA
       simp only [targumref6_Float11.j1] at H
       by_cases c40 : 0 ≤ x10_26
       ·rw [if_pos c40] at H
        have c40b0 := eq_true c40
        have c40b1 : decide (0 ≤ x10_26) = true := decide_eq_true c40
        clear c40
        by_cases c41 : x10_26 ≤ ((t449.extract ((ji24) : Int).toNat t449.size).size : Int)
        ·rw [if_pos c41] at H
         have c41b0 := eq_true c41
         have c41b1 : decide (x10_26 ≤ ((t449.extract ((ji24) : Int).toNat t449.size).size : Int)) = true := decide_eq_true c41
         try (have c41s := of_decide_eq_true c41b1; simp only [ByteArray.size_extract, Nat.min_self] at c41s; have c41t := eq_true c41s)
         clear c41
         replace H := Option.bind_eq_some_iff.mp H
         obtain ⟨⟨t459, t460⟩, A420, H⟩ := H
         replace H : ((targumref6_tail.f kj26 ((t449.extract ((ji24) : Int).toNat t449.size).extract (x10_26 : Int).toNat (t449.extract ((ji24) : Int).toNat t449.size).size) false).bind fun bt461 => (if bt461.2 = true then (if t457 > 0 then (if 0 < (t449.size : Int) then ((targumref4_IsDigit.f (bt t449 0)).bind fun t463 => (if t463 = true then (if 0 ≤ t457 then (if t457 ≤ (t449.size : Int) then ((targumref6_bare.f kj26 (t449.extract 0 (t457 : Int).toNat) 10).bind fun bt464 => (if bt464.2 = true then (targumref6_Float11.j2 kj26 t450 t457 (t449.extract ((ji24) : Int).toNat t449.size) x10_26 t459 t460 bt461.1 bt464.1 1 bt464.2) else ((targumref6_sixty.f kj26 (t449.extract 0 (t457 : Int).toNat)).bind fun bt466 => (targumref6_Float11.j2 kj26 t450 t457 (t449.extract ((ji24) : Int).toNat t449.size) x10_26 t459 t460 bt461.1 bt466.1 3 bt466.2)))) else (none)) else (none)) else (some (0, false, (⟨#[]⟩ : ByteArray), (⟨#[]⟩ : ByteArray), 0)))) else (none)) else (if t457 = 0 then (if t460 = true then ((targumref4_Make.f kj26 t450 (⟨#[]⟩ : ByteArray) t459 bt461.1).bind fun bt480 => (some (bt480.1, bt480.2.1, bt480.2.2.1, bt480.2.2.2.1, 2))) else (some (0, false, (⟨#[]⟩ : ByteArray), (⟨#[]⟩ : ByteArray), 0))) else ((targumref4_Make.f kj26 t450 (⟨#[]⟩ : ByteArray) t459 bt461.1).bind fun bt486 => (some (bt486.1, bt486.2.1, bt486.2.2.1, bt486.2.2.2.1, 2))))) else (some (0, false, (⟨#[]⟩ : ByteArray), (⟨#[]⟩ : ByteArray), 0)))) = some (r1, r2, r3, r4, r5) := H
         have A42 := Aside0.mk A420
         clear A420
         have c43b0 := eq_true (of_decide_eq_true (by first | (with_reducible assumption) | assumption) : 0 ≤ x10_26)
         have c44b0 := eq_true (of_decide_eq_true (by first | (with_reducible assumption) | assumption) : x10_26 ≤ ((t449.extract ((ji24) : Int).toNat t449.size).size : Int))
         replace H := Option.bind_eq_some_iff.mp H
         obtain ⟨⟨t461, t462⟩, A450, H⟩ := H
         replace H : (if t462 = true then (if t457 > 0 then (if 0 < (t449.size : Int) then ((targumref4_IsDigit.f (bt t449 0)).bind fun t463 => (if t463 = true then (if 0 ≤ t457 then (if t457 ≤ (t449.size : Int) then ((targumref6_bare.f kj26 (t449.extract 0 (t457 : Int).toNat) 10).bind fun bt464 => (if bt464.2 = true then (targumref6_Float11.j2 kj26 t450 t457 (t449.extract ((ji24) : Int).toNat t449.size) x10_26 t459 t460 t461 bt464.1 1 bt464.2) else ((targumref6_sixty.f kj26 (t449.extract 0 (t457 : Int).toNat)).bind fun bt466 => (targumref6_Float11.j2 kj26 t450 t457 (t449.extract ((ji24) : Int).toNat t449.size) x10_26 t459 t460 t461 bt466.1 3 bt466.2)))) else (none)) else (none)) else (some (0, false, (⟨#[]⟩ : ByteArray), (⟨#[]⟩ : ByteArray), 0)))) else (none)) else (if t457 = 0 then (if t460 = true then ((targumref4_Make.f kj26 t450 (⟨#[]⟩ : ByteArray) t459 t461).bind fun bt480 => (some (bt480.1, bt480.2.1, bt480.2.2.1, bt480.2.2.2.1, 2))) else (some (0, false, (⟨#[]⟩ : ByteArray), (⟨#[]⟩ : ByteArray), 0))) else ((targumref4_Make.f kj26 t450 (⟨#[]⟩ : ByteArray) t459 t461).bind fun bt486 => (some (bt486.1, bt486.2.1, bt486.2.2.1, bt486.2.2.2.1, 2))))) else (some (0, false, (⟨#[]⟩ : ByteArray), (⟨#[]⟩ : ByteArray), 0))) = some (r1, r2, r3, r4, r5) := H
         have A45 := Aside0.mk A450
         (try simp only [ByteArray.size_extract, Nat.min_self] at A45)
         clear A450
         refine Classical.byCases (p := (t462 = true)) (fun c46 => ?x25) (fun c46 => ?y25)
         case' x25 =>
          subst c46
          have H1 : (if t457 > 0 then (if 0 < (t449.size : Int) then ((targumref4_IsDigit.f (bt t449 0)).bind fun t463 => (if t463 = true then (if 0 ≤ t457 then (if t457 ≤ (t449.size : Int) then ((targumref6_bare.f kj26 (t449.extract 0 (t457 : Int).toNat) 10).bind fun bt464 => (if bt464.2 = true then (targumref6_Float11.j2 kj26 t450 t457 (t449.extract ((ji24) : Int).toNat t449.size) x10_26 t459 t460 t461 bt464.1 1 bt464.2) else ((targumref6_sixty.f kj26 (t449.extract 0 (t457 : Int).toNat)).bind fun bt466 => (targumref6_Float11.j2 kj26 t450 t457 (t449.extract ((ji24) : Int).toNat t449.size) x10_26 t459 t460 t461 bt466.1 3 bt466.2)))) else (none)) else (none)) else (some (0, false, (⟨#[]⟩ : ByteArray), (⟨#[]⟩ : ByteArray), 0)))) else (none)) else (if t457 = 0 then (if t460 = true then ((targumref4_Make.f kj26 t450 (⟨#[]⟩ : ByteArray) t459 t461).bind fun bt480 => (some (bt480.1, bt480.2.1, bt480.2.2.1, bt480.2.2.2.1, 2))) else (some (0, false, (⟨#[]⟩ : ByteArray), (⟨#[]⟩ : ByteArray), 0))) else ((targumref4_Make.f kj26 t450 (⟨#[]⟩ : ByteArray) t459 t461).bind fun bt486 => (some (bt486.1, bt486.2.1, bt486.2.2.1, bt486.2.2.2.1, 2))))) = some (r1, r2, r3, r4, r5) := by rw [if_pos rfl] at H; exact H
          clear H
          have H := H1
          clear H1
          refine Classical.byCases (p := (t457 > 0)) (fun c47 => ?x26) (fun c47 => ?y26)
          case' x26 =>
           rw [if_pos c47] at H
           have c47b0 : decide (0 < t457) = true := decide_eq_true c47
           clear c47
           by_cases c48 : 0 < (t449.size : Int)
           ·rw [if_pos c48] at H
            have c48b0 : decide (0 < (t449.size : Int)) = true := decide_eq_true c48
            have c48b1 : decide (0 < t449.size) = true := decide_eq_true (by omega)
            clear c48
            replace H := Option.bind_eq_some_iff.mp H
            obtain ⟨t463, A500, H⟩ := H
            replace H : (if t463 = true then (if 0 ≤ t457 then (if t457 ≤ (t449.size : Int) then ((targumref6_bare.f kj26 (t449.extract 0 (t457 : Int).toNat) 10).bind fun bt464 => (if bt464.2 = true then (targumref6_Float11.j2 kj26 t450 t457 (t449.extract ((ji24) : Int).toNat t449.size) x10_26 t459 t460 t461 bt464.1 1 bt464.2) else ((targumref6_sixty.f kj26 (t449.extract 0 (t457 : Int).toNat)).bind fun bt466 => (targumref6_Float11.j2 kj26 t450 t457 (t449.extract ((ji24) : Int).toNat t449.size) x10_26 t459 t460 t461 bt466.1 3 bt466.2)))) else (none)) else (none)) else (some (0, false, (⟨#[]⟩ : ByteArray), (⟨#[]⟩ : ByteArray), 0))) = some (r1, r2, r3, r4, r5) := H
            have A50 := Aside0.mk A500
            clear A500
            by_cases c51 : t463 = true
            ·subst c51
             have H1 : (if 0 ≤ t457 then (if t457 ≤ (t449.size : Int) then ((targumref6_bare.f kj26 (t449.extract 0 (t457 : Int).toNat) 10).bind fun bt464 => (if bt464.2 = true then (targumref6_Float11.j2 kj26 t450 t457 (t449.extract ((ji24) : Int).toNat t449.size) x10_26 t459 t460 t461 bt464.1 1 bt464.2) else ((targumref6_sixty.f kj26 (t449.extract 0 (t457 : Int).toNat)).bind fun bt466 => (targumref6_Float11.j2 kj26 t450 t457 (t449.extract ((ji24) : Int).toNat t449.size) x10_26 t459 t460 t461 bt466.1 3 bt466.2)))) else (none)) else (none)) = some (r1, r2, r3, r4, r5) := by rw [if_pos rfl] at H; exact H
             clear H
             have H := H1
             clear H1
             by_cases c52 : 0 ≤ t457
             ·rw [if_pos c52] at H
              have c52b0 := eq_true c52
              have c52b1 : decide (0 ≤ t457) = true := decide_eq_true c52
              clear c52
              by_cases c53 : t457 ≤ (t449.size : Int)
              ·rw [if_pos c53] at H
               have c53b0 := eq_true c53
               have c53b1 : decide (t457 ≤ (t449.size : Int)) = true := decide_eq_true c53
               clear c53
               replace H := Option.bind_eq_some_iff.mp H
               obtain ⟨⟨t464, t465⟩, A540, H⟩ := H
               replace H : (if t465 = true then (targumref6_Float11.j2 kj26 t450 t457 (t449.extract ((ji24) : Int).toNat t449.size) x10_26 t459 t460 t461 t464 1 t465) else ((targumref6_sixty.f kj26 (t449.extract 0 (t457 : Int).toNat)).bind fun bt466 => (targumref6_Float11.j2 kj26 t450 t457 (t449.extract ((ji24) : Int).toNat t449.size) x10_26 t459 t460 t461 bt466.1 3 bt466.2))) = some (r1, r2, r3, r4, r5) := H
               have A54 := Aside0.mk A540
               clear A540
               have HC55 := Aside0.mk H
               clear H
               go_upto_if 103 with (first | ((with_reducible refine gate_callee (f := 39) rfl ?_); refine goesL_ (some 74) rfl rfl Tryd.func39 (by kernel_rfl) rfl #[.string ((t449.extract ((ji24) : Int).toNat t449.size).extract 0 (x10_26 : Int).toNat), .int .i64 10] rfl (by (try simp only [List.map_toArray, List.map_cons, List.map_nil]); first | done | (simp only [hji24]; rfl) | rfl | (simp only [List.length_drop, List.length_take]; rfl)) ?_; (with_reducible refine (targumref6_bare.calls kj26 ((t449.extract ((ji24) : Int).toNat t449.size).extract 0 (x10_26 : Int).toNat) 10 t459 t460 _ A42.out).mono ?_); rintro e w56 ⟨rfl, hb⟩; refine ⟨_, rfl, ?_⟩; have n0_ := Aside0.mk (blk_below (g := gb448) (o := .cells #[.int .i64 0, .bool false, .string (⟨#[]⟩ : ByteArray), .string (⟨#[]⟩ : ByteArray)] 28 (0, 0)) bk hb); have n1_ := Aside0.mk (blk_below (g := gb456) (o := .cells #[.int .i64 t451, .bool t452, .string t453, .string t454] 28 (0, 0)) bk hb); have n2_ := Aside0.mk (below_step bl hb); clear BK448; clear BK456; clear HB; have BK448 := n0_; have BK456 := n1_; have HB := n2_; clear n0_ n1_ n2_; (try clear hb); (try clear hb2); (try clear hk); (try clear hi)) | ((with_reducible refine gate_callee (f := 32) rfl ?_); refine goesL_ (some 81) rfl rfl Tryd.func32 (by kernel_rfl) rfl #[.string ((t449.extract ((ji24) : Int).toNat t449.size).extract (x10_26 : Int).toNat (t449.size - ((ji24) : Int).toNat)), .bool false] rfl (by (try simp only [List.map_toArray, List.map_cons, List.map_nil]); first | done | (simp only [hji24]; rfl) | rfl | (simp only [List.length_drop, List.length_take]; rfl)) ?_; (with_reducible refine (targumref6_tail.calls kj26 ((t449.extract ((ji24) : Int).toNat t449.size).extract (x10_26 : Int).toNat (t449.size - ((ji24) : Int).toNat)) false t461 true _ A45.out).mono ?_); rintro e w' ⟨rfl, ⟨nd, rfl⟩⟩; refine ⟨_, rfl, ?_⟩; have p49 : 0 ≤ (0 : Int) := (by omega); have q49 : 0 < t449.size := (by have : (0 : Int) < (t449.size : Int) := of_decide_eq_true (by first | (with_reducible assumption) | assumption); omega); have hx49 : ∀ h : 0 < t449.size, ((t449[0]'h).toNat : Int) = bt t449 0 := bt_at t449 0; clear p49; have qi49 : (0 < (t449.size : Int)) = True := eq_true (of_decide_eq_true (by first | (with_reducible assumption) | assumption)); replace q49 := eq_true q49) | ((with_reducible refine gate_callee (f := 31) rfl ?_); refine goesL_ (some 91) rfl rfl Tryd.func31 (by kernel_rfl) rfl #[.int .u8 (bt t449 0)] rfl (by (try simp only [List.map_toArray, List.map_cons, List.map_nil]); first | done | rfl | (simp only [List.length_drop, List.length_take]; rfl)) ?_; (with_reducible refine (targumref4_IsDigit.calls (bt t449 0) true _ A50.out).mono ?_); rintro e w' ⟨rfl, ⟨nd, rfl⟩⟩; refine ⟨_, rfl, ?_⟩) | ((with_reducible refine gate_callee (f := 39) rfl ?_); refine goesL_ (some 98) rfl rfl Tryd.func39 (by kernel_rfl) rfl #[.string (t449.extract 0 (t457 : Int).toNat), .int .i64 10] rfl (by (try simp only [List.map_toArray, List.map_cons, List.map_nil]); first | done | rfl | (simp only [List.length_drop, List.length_take]; rfl)) ?_; (with_reducible refine (targumref6_bare.calls kj26 (t449.extract 0 (t457 : Int).toNat) 10 t464 t465 _ A54.out).mono ?_); rintro e w57 ⟨rfl, hb⟩; refine ⟨_, rfl, ?_⟩; have n0_ := Aside0.mk (blk_below (g := gb448) (o := .cells #[.int .i64 0, .bool false, .string (⟨#[]⟩ : ByteArray), .string (⟨#[]⟩ : ByteArray)] 28 (0, 0)) bk hb); have n1_ := Aside0.mk (blk_below (g := gb456) (o := .cells #[.int .i64 t451, .bool t452, .string t453, .string t454] 28 (0, 0)) bk hb); have n2_ := Aside0.mk (below_step bl hb); clear BK448; clear BK456; clear HB; have BK448 := n0_; have BK456 := n1_; have HB := n2_; clear n0_ n1_ n2_; (try clear hb); (try clear hb2); (try clear hk); (try clear hi)))
               (try simp only [Act.put, List.setIfInBounds_toArray, List.set_cons_zero, List.set_cons_succ])
               go_cut [15, 16, 18] (fun v15 v16 v18 wc => ∃ (kq : Nat) (x15_54 : ByteArray) (x16_54 : Int) (x18_54 : Bool), v15 = .string x15_54 ∧ v16 = .int .i64 x16_54 ∧ v18 = .bool x18_54 ∧ Aside0 (targumref6_Float11.j2 kq t450 t457 (t449.extract ((ji24) : Int).toNat t449.size) x10_26 t459 t460 t461 x15_54 x16_54 x18_54 = some (r1, r2, r3, r4, r5)) ∧ Aside0 (kq ≤ kj26) ∧ Aside0 (wc.heap[gb448]? = some (.cells #[.int .i64 0, .bool false, .string (⟨#[]⟩ : ByteArray), .string (⟨#[]⟩ : ByteArray)] 28 (0, 0))) ∧ Aside0 (wc.heap[gb456]? = some (.cells #[.int .i64 t451, .bool t452, .string t453, .string t454] 28 (0, 0))) ∧ Aside0 (Below w.heap.size w wc))
               case first =>
                have H := HC55.out
                clear HC55
                by_cases c58 : t465 = true
                ·subst c58
                 have H1 : (targumref6_Float11.j2 kj26 t450 t457 (t449.extract ((ji24) : Int).toNat t449.size) x10_26 t459 t460 t461 t464 1 true) = some (r1, r2, r3, r4, r5) := by rw [if_pos rfl] at H; exact H
                 clear H
                 have H := H1
                 clear H1
                 have H' := Aside0.mk H
                 clear H
                 go_wp2
                 go_meet
                 case rel => exact ⟨_, (t464), (1), (true), (by first | rfl | (simp; done) | (simp [*]; done) | (simp [wrap64]; done)), (by first | rfl | (simp; done) | (simp [*]; done) | (simp [wrap64]; done)), (by first | rfl | (simp; done) | (simp [*]; done) | (simp [wrap64]; done)), H', ⟨by have := HJ26.out; first | omega | exact Nat.le_refl _⟩, ⟨by (with_reducible repeat (first | refine blk_drewN ?_ _ | refine blk_drew ?_ | refine blk_alloc ?_ _)); exact BK448.out⟩, ⟨by (with_reducible repeat (first | refine blk_drewN ?_ _ | refine blk_drew ?_ | refine blk_alloc ?_ _)); exact BK456.out⟩, ⟨bl⟩⟩
                ·replace c58 := Bool.eq_false_iff.mpr c58
                 subst c58
                 have H1 : ((targumref6_sixty.f kj26 (t449.extract 0 (t457 : Int).toNat)).bind fun bt466 => (targumref6_Float11.j2 kj26 t450 t457 (t449.extract ((ji24) : Int).toNat t449.size) x10_26 t459 t460 t461 bt466.1 3 bt466.2)) = some (r1, r2, r3, r4, r5) := by rw [if_neg (show ¬ (false = true) by decide)] at H; exact H
                 clear H
                 have H := H1
                 clear H1
                 have c59b0 := eq_true (of_decide_eq_true (by first | (with_reducible assumption) | assumption) : 0 ≤ t457)
                 have c60b0 := eq_true (of_decide_eq_true (by first | (with_reducible assumption) | assumption) : t457 ≤ (t449.size : Int))
                 replace H := Option.bind_eq_some_iff.mp H
                 obtain ⟨⟨t466, t467⟩, A610, H⟩ := H
                 replace H : (targumref6_Float11.j2 kj26 t450 t457 (t449.extract ((ji24) : Int).toNat t449.size) x10_26 t459 t460 t461 t466 3 t467) = some (r1, r2, r3, r4, r5) := H
                 have A61 := Aside0.mk A610
                 clear A610
                 have H' := Aside0.mk H
                 clear H
                 go_wp2_with (first | ((with_reducible refine gate_callee (f := 40) rfl ?_); refine goesL_ (some 108) rfl rfl Tryd.func40 (by kernel_rfl) rfl #[.string (t449.extract 0 (t457 : Int).toNat)] rfl (by (try simp only [List.map_toArray, List.map_cons, List.map_nil]); first | done | rfl | (simp only [List.length_drop, List.length_take]; rfl)) ?_; (with_reducible refine (targumref6_sixty.calls kj26 (t449.extract 0 (t457 : Int).toNat) t466 t467 _ A61.out).mono ?_); rintro e w62 ⟨rfl, hb⟩; refine ⟨_, rfl, ?_⟩; have n0_ := Aside0.mk (blk_below (g := gb448) (o := .cells #[.int .i64 0, .bool false, .string (⟨#[]⟩ : ByteArray), .string (⟨#[]⟩ : ByteArray)] 28 (0, 0)) bk hb); have n1_ := Aside0.mk (blk_below (g := gb456) (o := .cells #[.int .i64 t451, .bool t452, .string t453, .string t454] 28 (0, 0)) bk hb); have n2_ := Aside0.mk (below_step bl hb); clear BK448; clear BK456; clear HB; have BK448 := n0_; have BK456 := n1_; have HB := n2_; clear n0_ n1_ n2_; (try clear hb); (try clear hb2); (try clear hk); (try clear hi)))
                 go_meet
                 case rel => exact ⟨_, (t466), (3), (t467), (by first | rfl | (simp; done) | (simp [*]; done) | (simp [wrap64]; done)), (by first | rfl | (simp; done) | (simp [*]; done) | (simp [wrap64]; done)), (by first | rfl | (simp; done) | (simp [*]; done) | (simp [wrap64]; done)), H', ⟨by have := HJ26.out; first | omega | exact Nat.le_refl _⟩, ⟨by (with_reducible repeat (first | refine blk_drewN ?_ _ | refine blk_drew ?_ | refine blk_alloc ?_ _)); exact BK448.out⟩, ⟨by (with_reducible repeat (first | refine blk_drewN ?_ _ | refine blk_drew ?_ | refine blk_alloc ?_ _)); exact BK456.out⟩, ⟨bl⟩⟩
               case rest =>
                clear HC55
                try clear c1; try clear c2; try clear p2; try clear c3; try clear p3; try clear q3; try clear hx3; try clear c4; try clear p4; try clear q4; try clear hx4; try clear qi4; try clear c5; try clear c6; try clear p6; try clear c8; try clear c17; try clear c17b0; try clear c20; try clear c21; try clear c25; try clear c25b0; try clear c25b1; try clear c26; try clear c26b0; try clear c26b1; try clear c30; try clear c31; try clear c32; try clear c33; try clear c33b0; try clear c33b1; try clear c34; try clear c34b0; try clear p35; try clear q35; try clear hx35; try clear c37; try clear p38; try clear q38; try clear hx38; try clear c39; try clear c39b0; try clear c39b1; try clear c40; try clear c40b0; try clear c40b1; try clear c41; try clear c41b0; try clear c41b1; try clear c43; try clear c43b0; try clear c44; try clear c44b0; try clear c46; try clear c47; try clear c47b0; try clear c48; try clear c48b0; try clear c48b1; try clear p49; try clear q49; try clear hx49; try clear qi49; try clear c51; try clear c52; try clear c52b0; try clear c52b1; try clear c53; try clear c53b0; try clear c53b1; try clear c58; try clear c59; try clear c59b0; try clear c60; try clear c60b0; try clear hcz22_0; try clear hcz22_1; try clear hcz22_2; try clear hcz22_3; try clear hcz23_0; try clear hcz23_1; try clear hcz23_2; try clear hcz23_3; try clear hcz32_0; try clear hcz32_1; try clear hcz32_2; try clear hcz32_3; try clear hcz9_0; try clear hcz9_1; try clear hcz9_2; try clear hcz9_3; try clear hfz22_0; try clear hfz22_1; try clear hfz22_2; try clear hfz22_3; try clear hfz23_0; try clear hfz23_1; try clear hfz23_2; try clear hfz23_3; try clear hfz32_0; try clear hfz32_1; try clear hfz32_2; try clear hfz32_3; try clear hfz9_0; try clear hfz9_1; try clear hfz9_2; try clear hfz9_3; try clear p2; try clear p3; try clear p35; try clear p38; try clear p49; try clear p6; try clear q3; try clear q35; try clear q38; try clear q49
                obtain ⟨kq, x15_54, x16_54, x18_54, rfl, rfl, rfl, HA, HJ54, BK448, BK456, HB⟩ := hcut
                cases kq with
                | zero => exact absurd HA.out (by simp [targumref6_Float11.j2])
                | succ kj54 =>
                 have H := HA.out
                 clear HA
                 simp only [targumref6_Float11.j2] at H
                 have HC63 := Aside0.mk H
                 clear H
                 go_upto_region 25 with (fail)
                 go_cut [123] (fun v123 wc => ∃ (kq : Nat) (x123_62 : Bool), v123 = .bool x123_62 ∧ Aside0 (targumref6_Float11.j3 kq t450 t457 t459 t460 t461 x15_54 x16_54 x123_62 = some (r1, r2, r3, r4, r5)) ∧ Aside0 (kq ≤ kj54) ∧ Aside0 (wc.heap[gb448]? = some (.cells #[.int .i64 0, .bool false, .string (⟨#[]⟩ : ByteArray), .string (⟨#[]⟩ : ByteArray)] 28 (0, 0))) ∧ Aside0 (wc.heap[gb456]? = some (.cells #[.int .i64 t451, .bool t452, .string t453, .string t454] 28 (0, 0))) ∧ Aside0 (Below w.heap.size w wc))
                 case first =>
                  have H := HC63.out
                  clear HC63
                  by_cases c64 : x18_54 = true
                  ·subst c64
                   have H1 : (if x16_54 = 3 then (targumref6_Float11.j3 kj54 t450 t457 t459 t460 t461 x15_54 x16_54 (decide (x10_26 < ((t449.extract ((ji24) : Int).toNat t449.size).size : Int)))) else (targumref6_Float11.j3 kj54 t450 t457 t459 t460 t461 x15_54 x16_54 false)) = some (r1, r2, r3, r4, r5) := by rw [if_pos rfl] at H; exact H
                   clear H
                   have H := H1
                   clear H1
                   by_cases c65 : x16_54 = 3
                   ·rw [if_pos c65] at H
                    have c65b0 : (x16_54 == 3) = true := beq_iff_eq.mpr c65
                    have c65b1 : (x16_54 != 3) = false := bne_eq_false_iff_eq.mpr c65
                    clear c65
                    (first | rw [c65b0] | (simp only [i64_w, i32_w]; rw [c65b0]) | skip)
                    have H' := Aside0.mk H
                    clear H
                    go_wp2
                    go_meet
                    case rel => exact ⟨_, (decide (x10_26 < ((t449.extract ((ji24) : Int).toNat t449.size).size : Int))), (by first | rfl | (simp; done) | (simp only [← hji24] <;> (first | rfl | simp)) | (simp [*]; done)), H', ⟨by have := HJ26.out; have := HJ54.out; first | omega | exact Nat.le_refl _⟩, ⟨by (with_reducible repeat (first | refine blk_drewN ?_ _ | refine blk_drew ?_ | refine blk_alloc ?_ _)); exact BK448.out⟩, ⟨by (with_reducible repeat (first | refine blk_drewN ?_ _ | refine blk_drew ?_ | refine blk_alloc ?_ _)); exact BK456.out⟩, ⟨bl⟩⟩
                   ·rw [if_neg c65] at H
                    have c65b0 : (x16_54 == 3) = false := beq_eq_false_iff_ne.mpr c65
                    have c65b1 : (x16_54 != 3) = true := bne_iff_ne.mpr c65
                    (first | rw [c65b0] | (simp only [i64_w, i32_w]; rw [c65b0]) | skip)
                    have H' := Aside0.mk H
                    clear H
                    go_wp2
                    go_meet
                    case rel => exact ⟨_, (false), (by first | rfl | (simp; done) | (simp [*]; done) | (simp [wrap64]; done)), H', ⟨by have := HJ26.out; have := HJ54.out; first | omega | exact Nat.le_refl _⟩, ⟨by (with_reducible repeat (first | refine blk_drewN ?_ _ | refine blk_drew ?_ | refine blk_alloc ?_ _)); exact BK448.out⟩, ⟨by (with_reducible repeat (first | refine blk_drewN ?_ _ | refine blk_drew ?_ | refine blk_alloc ?_ _)); exact BK456.out⟩, ⟨bl⟩⟩
                  ·replace c64 := Bool.eq_false_iff.mpr c64
                   subst c64
                   have H1 : (targumref6_Float11.j3 kj54 t450 t457 t459 t460 t461 x15_54 x16_54 true) = some (r1, r2, r3, r4, r5) := by rw [if_neg (show ¬ (false = true) by decide)] at H; exact H
                   clear H
                   have H := H1
                   clear H1
                   have H' := Aside0.mk H
                   clear H
                   go_wp2
                   go_meet
                   case rel => exact ⟨_, (true), (by first | rfl | (simp; done) | (simp [*]; done) | (simp [wrap64]; done)), H', ⟨by have := HJ26.out; have := HJ54.out; first | omega | exact Nat.le_refl _⟩, ⟨by (with_reducible repeat (first | refine blk_drewN ?_ _ | refine blk_drew ?_ | refine blk_alloc ?_ _)); exact BK448.out⟩, ⟨by (with_reducible repeat (first | refine blk_drewN ?_ _ | refine blk_drew ?_ | refine blk_alloc ?_ _)); exact BK456.out⟩, ⟨bl⟩⟩
                 case rest =>
                  clear HC63
                  try clear c1; try clear c2; try clear p2; try clear c3; try clear p3; try clear q3; try clear hx3; try clear c4; try clear p4; try clear q4; try clear hx4; try clear qi4; try clear c5; try clear c6; try clear p6; try clear c8; try clear c17; try clear c17b0; try clear c20; try clear c21; try clear c25; try clear c25b0; try clear c25b1; try clear c26; try clear c26b0; try clear c26b1; try clear c30; try clear c31; try clear c32; try clear c33; try clear c33b0; try clear c33b1; try clear c34; try clear c34b0; try clear p35; try clear q35; try clear hx35; try clear c37; try clear p38; try clear q38; try clear hx38; try clear c39; try clear c39b0; try clear c39b1; try clear c40; try clear c40b0; try clear c40b1; try clear c41; try clear c41b0; try clear c41b1; try clear c43; try clear c43b0; try clear c44; try clear c44b0; try clear c46; try clear c47; try clear c47b0; try clear c48; try clear c48b0; try clear c48b1; try clear p49; try clear q49; try clear hx49; try clear qi49; try clear c51; try clear c52; try clear c52b0; try clear c52b1; try clear c53; try clear c53b0; try clear c53b1; try clear c58; try clear c59; try clear c59b0; try clear c60; try clear c60b0; try clear c64; try clear p64; try clear c65; try clear c65b0; try clear c65b1; try clear hcz22_0; try clear hcz22_1; try clear hcz22_2; try clear hcz22_3; try clear hcz23_0; try clear hcz23_1; try clear hcz23_2; try clear hcz23_3; try clear hcz32_0; try clear hcz32_1; try clear hcz32_2; try clear hcz32_3; try clear hcz9_0; try clear hcz9_1; try clear hcz9_2; try clear hcz9_3; try clear hfz22_0; try clear hfz22_1; try clear hfz22_2; try clear hfz22_3; try clear hfz23_0; try clear hfz23_1; try clear hfz23_2; try clear hfz23_3; try clear hfz32_0; try clear hfz32_1; try clear hfz32_2; try clear hfz32_3; try clear hfz9_0; try clear hfz9_1; try clear hfz9_2; try clear hfz9_3; try clear p2; try clear p3; try clear p35; try clear p38; try clear p4; try clear p49; try clear p6; try clear q3; try clear q35; try clear q38; try clear q4; try clear q49
                  obtain ⟨kq, x123_62, rfl, HA, HJ62, BK448, BK456, HB⟩ := hcut
                  cases kq with
                  | zero => exact absurd HA.out (by simp [targumref6_Float11.j3])
                  | succ kj62 =>
                   have H := HA.out
                   clear HA
                   simp only [targumref6_Float11.j3] at H
                   by_cases c66 : x123_62 = true
                   ·subst c66
                    have H1 : (some (0, false, (⟨#[]⟩ : ByteArray), (⟨#[]⟩ : ByteArray), 0)) = some (r1, r2, r3, r4, r5) := by rw [if_pos rfl] at H; exact H
                    clear H
                    have H := H1
                    clear H1
                    simp only [Option.some.injEq, Prod.mk.injEq] at H
                    obtain ⟨rfl, rfl, rfl, rfl, rfl⟩ := H
                    have hnb67 := NB448_456.out
                    have hnc67 := NB456_448.out
                    have hcz68_0 : wc.cell? ⟨gb448, 0, none⟩ = some (.int .i64 0) := (blk_cell BK448.out 0).trans rfl
                    have hcz68_1 : wc.cell? ⟨gb448, 1, none⟩ = some (.bool false) := (blk_cell BK448.out 1).trans rfl
                    have hcz68_2 : wc.cell? ⟨gb448, 2, none⟩ = some (.string (⟨#[]⟩ : ByteArray)) := (blk_cell BK448.out 2).trans rfl
                    have hcz68_3 : wc.cell? ⟨gb448, 3, none⟩ = some (.string (⟨#[]⟩ : ByteArray)) := (blk_cell BK448.out 3).trans rfl
                    have hfz68_0 := blk_frozen BK448.out 0
                    have hfz68_1 := blk_frozen BK448.out 1
                    have hfz68_2 := blk_frozen BK448.out 2
                    have hfz68_3 := blk_frozen BK448.out 3
                    go_wp2
                    refine bodyPost_ret (results_ct rfl _ _ gb448 28 #[.int .i64 0, .bool false, .string (⟨#[]⟩ : ByteArray), .string (⟨#[]⟩ : ByteArray)] (0, 0) _ rfl bk Tryd.underlying28 rfl (by kernel_rfl)) rfl ?_
                    exact ⟨by first | rfl | (simp [errW_none, errW_some] <;> rfl) | (simp only [← hji24]; first | rfl | (simp [errW_none, errW_some] <;> rfl)) | (simp [*, errW_none, errW_some] <;> rfl), bl⟩
                   ·replace c66 := Bool.eq_false_iff.mpr c66
                    subst c66
                    have H1 : (if t457 = 0 then (if t460 = true then ((targumref4_Make.f kj62 t450 x15_54 t459 t461).bind fun bt468 => (some (bt468.1, bt468.2.1, bt468.2.2.1, bt468.2.2.2.1, x16_54))) else (some (0, false, (⟨#[]⟩ : ByteArray), (⟨#[]⟩ : ByteArray), 0))) else ((targumref4_Make.f kj62 t450 x15_54 t459 t461).bind fun bt474 => (some (bt474.1, bt474.2.1, bt474.2.2.1, bt474.2.2.2.1, x16_54)))) = some (r1, r2, r3, r4, r5) := by rw [if_neg (show ¬ (false = true) by decide)] at H; exact H
                    clear H
                    have H := H1
                    clear H1
                    by_cases c69 : t457 = 0
                    ·rw [if_pos c69] at H
                     have c69b0 : (t457 == 0) = true := beq_iff_eq.mpr c69
                     have c69b1 : (t457 != 0) = false := bne_eq_false_iff_eq.mpr c69
                     clear c69
                     by_cases c70 : t460 = true
                     ·subst c70
                      have H1 : ((targumref4_Make.f kj62 t450 x15_54 t459 t461).bind fun bt468 => (some (bt468.1, bt468.2.1, bt468.2.2.1, bt468.2.2.2.1, x16_54))) = some (r1, r2, r3, r4, r5) := by rw [if_pos rfl] at H; exact H
                      clear H
                      have H := H1
                      clear H1
                      replace H := Option.bind_eq_some_iff.mp H
                      obtain ⟨⟨t468, t469, t470, t471, t472⟩, A710, H⟩ := H
                      replace H : (some (t468, t469, t470, t471, x16_54)) = some (r1, r2, r3, r4, r5) := H
                      have A71 := Aside0.mk A710
                      clear A710
                      simp only [Option.some.injEq, Prod.mk.injEq] at H
                      obtain ⟨rfl, rfl, rfl, rfl, rfl⟩ := H
                      go_wp2_with (first | ((with_reducible refine gate_callee (f := 13) rfl ?_); refine goesL_ (some 137) rfl rfl Tryd.func13 (by kernel_rfl) rfl #[.bool t450, .string x15_54, .string t459, .string t461] rfl (by (try simp only [List.map_toArray, List.map_cons, List.map_nil]); first | done | rfl | (simp only [List.length_drop, List.length_take]; rfl)) ?_; (with_reducible refine (targumref4_Make.calls kj62 t450 x15_54 t459 t461 t468 t469 t470 t471 t472 _ A71.out).mono ?_); rintro e w72 ⟨rfl, hb⟩; refine ⟨_, rfl, ?_⟩; have n0_ := Aside0.mk (blk_below (g := gb448) (o := .cells #[.int .i64 0, .bool false, .string (⟨#[]⟩ : ByteArray), .string (⟨#[]⟩ : ByteArray)] 28 (0, 0)) bk hb); have n1_ := Aside0.mk (blk_below (g := gb456) (o := .cells #[.int .i64 t451, .bool t452, .string t453, .string t454] 28 (0, 0)) bk hb); have n2_ := Aside0.mk (below_step bl hb); clear BK448; clear BK456; clear HB; have BK448 := n0_; have BK456 := n1_; have HB := n2_; clear n0_ n1_ n2_; (try clear hb); (try clear hb2); (try clear hk); (try clear hi)) | ((with_reducible refine gate_dst (N := 19) rfl ?_); (try (refine gate_guard (by rfl) ?_; dsimp only)); refine box_event ?hg (N := 19) ?hd (cs := #[.int .i64 0, .bool false, .string (⟨#[]⟩ : ByteArray), .string (⟨#[]⟩ : ByteArray)]) (t := 28) ?hr ?_; (case hd => rfl); (case hg => rfl); (case hr => first | (go_simp; done) | (go_simp; rfl)); intro gb473 hg w73 hbox hb; have n0_ := Aside0.mk (blk_below (g := gb448) (o := .cells #[.int .i64 0, .bool false, .string (⟨#[]⟩ : ByteArray), .string (⟨#[]⟩ : ByteArray)] 28 (0, 0)) bk hb); have n1_ := Aside0.mk (blk_below (g := gb456) (o := .cells #[.int .i64 t451, .bool t452, .string t453, .string t454] 28 (0, 0)) bk hb); have n2_ := Aside0.mk (below_step bl hb); have n3_ := Aside0.mk (hbox); have n4_ := Aside0.mk ((by rw [hg]; exact (below_size bl) : w.heap.size ≤ gb473)); have n5_ := Aside0.mk ((by rw [hg]; exact (below_size bl) : w.heap.size ≤ gb473)); have n6_ := Aside0.mk ((by rw [hg]; exact Nat.ne_of_lt (blk_lt (g := gb448) (o := .cells #[.int .i64 0, .bool false, .string (⟨#[]⟩ : ByteArray), .string (⟨#[]⟩ : ByteArray)] 28 (0, 0)) bk) : gb448 ≠ gb473)); have n7_ := Aside0.mk ((by rw [hg]; exact Nat.ne_of_gt (blk_lt (g := gb448) (o := .cells #[.int .i64 0, .bool false, .string (⟨#[]⟩ : ByteArray), .string (⟨#[]⟩ : ByteArray)] 28 (0, 0)) bk) : gb473 ≠ gb448)); have n8_ := Aside0.mk ((by rw [hg]; exact Nat.ne_of_lt (blk_lt (g := gb456) (o := .cells #[.int .i64 t451, .bool t452, .string t453, .string t454] 28 (0, 0)) bk) : gb456 ≠ gb473)); have n9_ := Aside0.mk ((by rw [hg]; exact Nat.ne_of_gt (blk_lt (g := gb456) (o := .cells #[.int .i64 t451, .bool t452, .string t453, .string t454] 28 (0, 0)) bk) : gb473 ≠ gb456)); clear BK448; clear BK456; clear HB; have BK448 := n0_; have BK456 := n1_; have HB := n2_; have BK473 := n3_; have GW473 := n4_; have GE473 := n5_; have NB448_473 := n6_; have NB473_448 := n7_; have NB456_473 := n8_; have NB473_456 := n9_; clear n0_ n1_ n2_ n3_ n4_ n5_ n6_ n7_ n8_ n9_; clear hb hbox hg; have hnb74 := NB473_448.out; have hnc74 := NB448_473.out; have hnb75 := NB473_456.out; have hnc75 := NB456_473.out; have hcz76_0 : w73.cell? ⟨gb473, 0, none⟩ = some (.int .i64 0) := (blk_cell BK473.out 0).trans rfl; have hcz76_1 : w73.cell? ⟨gb473, 1, none⟩ = some (.bool false) := (blk_cell BK473.out 1).trans rfl; have hcz76_2 : w73.cell? ⟨gb473, 2, none⟩ = some (.string (⟨#[]⟩ : ByteArray)) := (blk_cell BK473.out 2).trans rfl; have hcz76_3 : w73.cell? ⟨gb473, 3, none⟩ = some (.string (⟨#[]⟩ : ByteArray)) := (blk_cell BK473.out 3).trans rfl; have hfz76_0 := blk_frozen BK473.out 0; have hfz76_1 := blk_frozen BK473.out 1; have hfz76_2 := blk_frozen BK473.out 2; have hfz76_3 := blk_frozen BK473.out 3; have hnb77 := NB448_456.out; have hnc77 := NB456_448.out; have hcz78_0 : w73.cell? ⟨gb448, 0, none⟩ = some (.int .i64 0) := (blk_cell BK448.out 0).trans rfl; have hcz78_1 : w73.cell? ⟨gb448, 1, none⟩ = some (.bool false) := (blk_cell BK448.out 1).trans rfl; have hcz78_2 : w73.cell? ⟨gb448, 2, none⟩ = some (.string (⟨#[]⟩ : ByteArray)) := (blk_cell BK448.out 2).trans rfl; have hcz78_3 : w73.cell? ⟨gb448, 3, none⟩ = some (.string (⟨#[]⟩ : ByteArray)) := (blk_cell BK448.out 3).trans rfl; have hfz78_0 := blk_frozen BK448.out 0; have hfz78_1 := blk_frozen BK448.out 1; have hfz78_2 := blk_frozen BK448.out 2; have hfz78_3 := blk_frozen BK448.out 3))
                      refine bodyPost_ret (results_ct rfl _ _ gb448 28 #[.int .i64 t468, .bool t469, .string t470, .string t471] (0, 0) _ rfl bk Tryd.underlying28 rfl (by kernel_rfl)) rfl ?_
                      exact ⟨by first | rfl | (simp [errW_none, errW_some] <;> rfl) | (simp only [← hji24]; first | rfl | (simp [errW_none, errW_some] <;> rfl)) | (simp [*, errW_none, errW_some] <;> rfl), bl⟩
                     ·replace c70 := Bool.eq_false_iff.mpr c70
                      subst c70
                      have H1 : (some (0, false, (⟨#[]⟩ : ByteArray), (⟨#[]⟩ : ByteArray), 0)) = some (r1, r2, r3, r4, r5) := by rw [if_neg (show ¬ (false = true) by decide)] at H; exact H
                      clear H
                      have H := H1
                      clear H1
                      simp only [Option.some.injEq, Prod.mk.injEq] at H
                      obtain ⟨rfl, rfl, rfl, rfl, rfl⟩ := H
                      have hnb79 := NB448_456.out
                      have hnc79 := NB456_448.out
                      have hcz80_0 : wc.cell? ⟨gb448, 0, none⟩ = some (.int .i64 0) := (blk_cell BK448.out 0).trans rfl
                      have hcz80_1 : wc.cell? ⟨gb448, 1, none⟩ = some (.bool false) := (blk_cell BK448.out 1).trans rfl
                      have hcz80_2 : wc.cell? ⟨gb448, 2, none⟩ = some (.string (⟨#[]⟩ : ByteArray)) := (blk_cell BK448.out 2).trans rfl
                      have hcz80_3 : wc.cell? ⟨gb448, 3, none⟩ = some (.string (⟨#[]⟩ : ByteArray)) := (blk_cell BK448.out 3).trans rfl
                      have hfz80_0 := blk_frozen BK448.out 0
                      have hfz80_1 := blk_frozen BK448.out 1
                      have hfz80_2 := blk_frozen BK448.out 2
                      have hfz80_3 := blk_frozen BK448.out 3
                      go_wp2
                      refine bodyPost_ret (results_ct rfl _ _ gb448 28 #[.int .i64 0, .bool false, .string (⟨#[]⟩ : ByteArray), .string (⟨#[]⟩ : ByteArray)] (0, 0) _ rfl bk Tryd.underlying28 rfl (by kernel_rfl)) rfl ?_
                      exact ⟨by first | rfl | (simp [errW_none, errW_some] <;> rfl) | (simp only [← hji24]; first | rfl | (simp [errW_none, errW_some] <;> rfl)) | (simp [*, errW_none, errW_some] <;> rfl), bl⟩
                    ·rw [if_neg c69] at H
                     have c69b0 : (t457 == 0) = false := beq_eq_false_iff_ne.mpr c69
                     have c69b1 : (t457 != 0) = true := bne_iff_ne.mpr c69
                     replace H := Option.bind_eq_some_iff.mp H
                     obtain ⟨⟨t474, t475, t476, t477, t478⟩, A810, H⟩ := H
                     replace H : (some (t474, t475, t476, t477, x16_54)) = some (r1, r2, r3, r4, r5) := H
                     have A81 := Aside0.mk A810
                     clear A810
                     simp only [Option.some.injEq, Prod.mk.injEq] at H
                     obtain ⟨rfl, rfl, rfl, rfl, rfl⟩ := H
                     go_wp2_with (first | ((with_reducible refine gate_callee (f := 13) rfl ?_); refine goesL_ (some 137) rfl rfl Tryd.func13 (by kernel_rfl) rfl #[.bool t450, .string x15_54, .string t459, .string t461] rfl (by (try simp only [List.map_toArray, List.map_cons, List.map_nil]); first | done | rfl | (simp only [List.length_drop, List.length_take]; rfl)) ?_; (with_reducible refine (targumref4_Make.calls kj62 t450 x15_54 t459 t461 t474 t475 t476 t477 t478 _ A81.out).mono ?_); rintro e w82 ⟨rfl, hb⟩; refine ⟨_, rfl, ?_⟩; have n0_ := Aside0.mk (blk_below (g := gb448) (o := .cells #[.int .i64 0, .bool false, .string (⟨#[]⟩ : ByteArray), .string (⟨#[]⟩ : ByteArray)] 28 (0, 0)) bk hb); have n1_ := Aside0.mk (blk_below (g := gb456) (o := .cells #[.int .i64 t451, .bool t452, .string t453, .string t454] 28 (0, 0)) bk hb); have n2_ := Aside0.mk (below_step bl hb); clear BK448; clear BK456; clear HB; have BK448 := n0_; have BK456 := n1_; have HB := n2_; clear n0_ n1_ n2_; (try clear hb); (try clear hb2); (try clear hk); (try clear hi)) | ((with_reducible refine gate_dst (N := 19) rfl ?_); (try (refine gate_guard (by rfl) ?_; dsimp only)); refine box_event ?hg (N := 19) ?hd (cs := #[.int .i64 0, .bool false, .string (⟨#[]⟩ : ByteArray), .string (⟨#[]⟩ : ByteArray)]) (t := 28) ?hr ?_; (case hd => rfl); (case hg => rfl); (case hr => first | (go_simp; done) | (go_simp; rfl)); intro gb479 hg w83 hbox hb; have n0_ := Aside0.mk (blk_below (g := gb448) (o := .cells #[.int .i64 0, .bool false, .string (⟨#[]⟩ : ByteArray), .string (⟨#[]⟩ : ByteArray)] 28 (0, 0)) bk hb); have n1_ := Aside0.mk (blk_below (g := gb456) (o := .cells #[.int .i64 t451, .bool t452, .string t453, .string t454] 28 (0, 0)) bk hb); have n2_ := Aside0.mk (below_step bl hb); have n3_ := Aside0.mk (hbox); have n4_ := Aside0.mk ((by rw [hg]; exact (below_size bl) : w.heap.size ≤ gb479)); have n5_ := Aside0.mk ((by rw [hg]; exact (below_size bl) : w.heap.size ≤ gb479)); have n6_ := Aside0.mk ((by rw [hg]; exact Nat.ne_of_lt (blk_lt (g := gb448) (o := .cells #[.int .i64 0, .bool false, .string (⟨#[]⟩ : ByteArray), .string (⟨#[]⟩ : ByteArray)] 28 (0, 0)) bk) : gb448 ≠ gb479)); have n7_ := Aside0.mk ((by rw [hg]; exact Nat.ne_of_gt (blk_lt (g := gb448) (o := .cells #[.int .i64 0, .bool false, .string (⟨#[]⟩ : ByteArray), .string (⟨#[]⟩ : ByteArray)] 28 (0, 0)) bk) : gb479 ≠ gb448)); have n8_ := Aside0.mk ((by rw [hg]; exact Nat.ne_of_lt (blk_lt (g := gb456) (o := .cells #[.int .i64 t451, .bool t452, .string t453, .string t454] 28 (0, 0)) bk) : gb456 ≠ gb479)); have n9_ := Aside0.mk ((by rw [hg]; exact Nat.ne_of_gt (blk_lt (g := gb456) (o := .cells #[.int .i64 t451, .bool t452, .string t453, .string t454] 28 (0, 0)) bk) : gb479 ≠ gb456)); clear BK448; clear BK456; clear HB; have BK448 := n0_; have BK456 := n1_; have HB := n2_; have BK479 := n3_; have GW479 := n4_; have GE479 := n5_; have NB448_479 := n6_; have NB479_448 := n7_; have NB456_479 := n8_; have NB479_456 := n9_; clear n0_ n1_ n2_ n3_ n4_ n5_ n6_ n7_ n8_ n9_; clear hb hbox hg; have hnb84 := NB479_448.out; have hnc84 := NB448_479.out; have hnb85 := NB479_456.out; have hnc85 := NB456_479.out; have hcz86_0 : w83.cell? ⟨gb479, 0, none⟩ = some (.int .i64 0) := (blk_cell BK479.out 0).trans rfl; have hcz86_1 : w83.cell? ⟨gb479, 1, none⟩ = some (.bool false) := (blk_cell BK479.out 1).trans rfl; have hcz86_2 : w83.cell? ⟨gb479, 2, none⟩ = some (.string (⟨#[]⟩ : ByteArray)) := (blk_cell BK479.out 2).trans rfl; have hcz86_3 : w83.cell? ⟨gb479, 3, none⟩ = some (.string (⟨#[]⟩ : ByteArray)) := (blk_cell BK479.out 3).trans rfl; have hfz86_0 := blk_frozen BK479.out 0; have hfz86_1 := blk_frozen BK479.out 1; have hfz86_2 := blk_frozen BK479.out 2; have hfz86_3 := blk_frozen BK479.out 3; have hnb87 := NB448_456.out; have hnc87 := NB456_448.out; have hcz88_0 : w83.cell? ⟨gb448, 0, none⟩ = some (.int .i64 0) := (blk_cell BK448.out 0).trans rfl; have hcz88_1 : w83.cell? ⟨gb448, 1, none⟩ = some (.bool false) := (blk_cell BK448.out 1).trans rfl; have hcz88_2 : w83.cell? ⟨gb448, 2, none⟩ = some (.string (⟨#[]⟩ : ByteArray)) := (blk_cell BK448.out 2).trans rfl; have hcz88_3 : w83.cell? ⟨gb448, 3, none⟩ = some (.string (⟨#[]⟩ : ByteArray)) := (blk_cell BK448.out 3).trans rfl; have hfz88_0 := blk_frozen BK448.out 0; have hfz88_1 := blk_frozen BK448.out 1; have hfz88_2 := blk_frozen BK448.out 2; have hfz88_3 := blk_frozen BK448.out 3))
                     refine bodyPost_ret (results_ct rfl _ _ gb448 28 #[.int .i64 t474, .bool t475, .string t476, .string t477] (0, 0) _ rfl bk Tryd.underlying28 rfl (by kernel_rfl)) rfl ?_
                     exact ⟨by first | rfl | (simp [errW_none, errW_some] <;> rfl) | (simp only [← hji24]; first | rfl | (simp [errW_none, errW_some] <;> rfl)) | (simp [*, errW_none, errW_some] <;> rfl), bl⟩
              ·rw [if_neg c53] at H
               exact absurd H (by simp)
             ·rw [if_neg c52] at H
              exact absurd H (by simp)
            ·replace c51 := Bool.eq_false_iff.mpr c51
             subst c51
             have H1 : (some (0, false, (⟨#[]⟩ : ByteArray), (⟨#[]⟩ : ByteArray), 0)) = some (r1, r2, r3, r4, r5) := by rw [if_neg (show ¬ (false = true) by decide)] at H; exact H
             clear H
             have H := H1
             clear H1
             simp only [Option.some.injEq, Prod.mk.injEq] at H
             obtain ⟨rfl, rfl, rfl, rfl, rfl⟩ := H
             go_wp2_with (first | ((with_reducible refine gate_callee (f := 39) rfl ?_); refine goesL_ (some 74) rfl rfl Tryd.func39 (by kernel_rfl) rfl #[.string ((t449.extract ((ji24) : Int).toNat t449.size).extract 0 (x10_26 : Int).toNat), .int .i64 10] rfl (by (try simp only [List.map_toArray, List.map_cons, List.map_nil]); first | done | (simp only [hji24]; rfl) | rfl | (simp only [List.length_drop, List.length_take]; rfl)) ?_; (with_reducible refine (targumref6_bare.calls kj26 ((t449.extract ((ji24) : Int).toNat t449.size).extract 0 (x10_26 : Int).toNat) 10 t459 t460 _ A42.out).mono ?_); rintro e w89 ⟨rfl, hb⟩; refine ⟨_, rfl, ?_⟩; have n0_ := Aside0.mk (blk_below (g := gb448) (o := .cells #[.int .i64 0, .bool false, .string (⟨#[]⟩ : ByteArray), .string (⟨#[]⟩ : ByteArray)] 28 (0, 0)) bk hb); have n1_ := Aside0.mk (blk_below (g := gb456) (o := .cells #[.int .i64 t451, .bool t452, .string t453, .string t454] 28 (0, 0)) bk hb); have n2_ := Aside0.mk (below_step bl hb); clear BK448; clear BK456; clear HB; have BK448 := n0_; have BK456 := n1_; have HB := n2_; clear n0_ n1_ n2_; (try clear hb); (try clear hb2); (try clear hk); (try clear hi)) | ((with_reducible refine gate_callee (f := 32) rfl ?_); refine goesL_ (some 81) rfl rfl Tryd.func32 (by kernel_rfl) rfl #[.string ((t449.extract ((ji24) : Int).toNat t449.size).extract (x10_26 : Int).toNat (t449.size - ((ji24) : Int).toNat)), .bool false] rfl (by (try simp only [List.map_toArray, List.map_cons, List.map_nil]); first | done | (simp only [hji24]; rfl) | rfl | (simp only [List.length_drop, List.length_take]; rfl)) ?_; (with_reducible refine (targumref6_tail.calls kj26 ((t449.extract ((ji24) : Int).toNat t449.size).extract (x10_26 : Int).toNat (t449.size - ((ji24) : Int).toNat)) false t461 true _ A45.out).mono ?_); rintro e w' ⟨rfl, ⟨nd, rfl⟩⟩; refine ⟨_, rfl, ?_⟩; (try (rw [drewN_self w89]; generalize hq_ : World.drewN w89 _ = w89; have n0_ : Aside0 (w89.heap[gb448]? = some (.cells #[.int .i64 0, .bool false, .string (⟨#[]⟩ : ByteArray), .string (⟨#[]⟩ : ByteArray)] 28 (0, 0))) := ⟨by rw [← hq_]; exact bk⟩; have n1_ : Aside0 (w89.heap[gb456]? = some (.cells #[.int .i64 t451, .bool t452, .string t453, .string t454] 28 (0, 0))) := ⟨by rw [← hq_]; exact bk⟩; have n2_ : Aside0 (Below w.heap.size w w89) := ⟨by rw [← hq_]; exact bl⟩; clear BK448 BK456 HB hq_; have BK448 := n0_; have BK456 := n1_; have HB := n2_; clear n0_ n1_ n2_)); have p49 : 0 ≤ (0 : Int) := (by omega); have q49 : 0 < t449.size := (by have : (0 : Int) < (t449.size : Int) := of_decide_eq_true (by first | (with_reducible assumption) | assumption); omega); have hx49 : ∀ h : 0 < t449.size, ((t449[0]'h).toNat : Int) = bt t449 0 := bt_at t449 0; clear p49; have qi49 : (0 < (t449.size : Int)) = True := eq_true (of_decide_eq_true (by first | (with_reducible assumption) | assumption)); replace q49 := eq_true q49) | ((with_reducible refine gate_callee (f := 31) rfl ?_); refine goesL_ (some 91) rfl rfl Tryd.func31 (by kernel_rfl) rfl #[.int .u8 (bt t449 0)] rfl (by (try simp only [List.map_toArray, List.map_cons, List.map_nil]); first | done | rfl | (simp only [List.length_drop, List.length_take]; rfl)) ?_; (with_reducible refine (targumref4_IsDigit.calls (bt t449 0) false _ A50.out).mono ?_); rintro e w' ⟨rfl, ⟨nd, rfl⟩⟩; refine ⟨_, rfl, ?_⟩; (try (rw [drewN_self w89]; generalize hq_ : World.drewN w89 _ = w89; have n0_ : Aside0 (w89.heap[gb448]? = some (.cells #[.int .i64 0, .bool false, .string (⟨#[]⟩ : ByteArray), .string (⟨#[]⟩ : ByteArray)] 28 (0, 0))) := ⟨by rw [← hq_]; exact bk⟩; have n1_ : Aside0 (w89.heap[gb456]? = some (.cells #[.int .i64 t451, .bool t452, .string t453, .string t454] 28 (0, 0))) := ⟨by rw [← hq_]; exact bk⟩; have n2_ : Aside0 (Below w.heap.size w w89) := ⟨by rw [← hq_]; exact bl⟩; clear BK448 BK456 HB hq_; have BK448 := n0_; have BK456 := n1_; have HB := n2_; clear n0_ n1_ n2_)); have hnb90 := NB448_456.out; have hnc90 := NB456_448.out; have hcz91_0 : w89.cell? ⟨gb448, 0, none⟩ = some (.int .i64 0) := (blk_cell BK448.out 0).trans rfl; have hcz91_1 : w89.cell? ⟨gb448, 1, none⟩ = some (.bool false) := (blk_cell BK448.out 1).trans rfl; have hcz91_2 : w89.cell? ⟨gb448, 2, none⟩ = some (.string (⟨#[]⟩ : ByteArray)) := (blk_cell BK448.out 2).trans rfl; have hcz91_3 : w89.cell? ⟨gb448, 3, none⟩ = some (.string (⟨#[]⟩ : ByteArray)) := (blk_cell BK448.out 3).trans rfl; have hfz91_0 := blk_frozen BK448.out 0; have hfz91_1 := blk_frozen BK448.out 1; have hfz91_2 := blk_frozen BK448.out 2; have hfz91_3 := blk_frozen BK448.out 3))
             refine bodyPost_ret (results_ct rfl _ _ gb448 28 #[.int .i64 0, .bool false, .string (⟨#[]⟩ : ByteArray), .string (⟨#[]⟩ : ByteArray)] (0, 0) _ rfl bk Tryd.underlying28 rfl (by kernel_rfl)) rfl ?_
             exact ⟨by first | rfl | (simp [errW_none, errW_some] <;> rfl) | (simp only [← hji24]; first | rfl | (simp [errW_none, errW_some] <;> rfl)) | (simp [*, errW_none, errW_some] <;> rfl), bl⟩
           ·rw [if_neg c48] at H
            exact absurd H (by simp)
          case' y26 =>
           rw [if_neg c47] at H
           have c47b0 : decide (0 < t457) = false := decide_eq_false c47
           clear c47
           refine Classical.byCases (p := (t457 = 0)) (fun c92 => ?x27) (fun c92 => ?y27)
           case' x27 =>
            rw [if_pos c92] at H
            have c92b0 : (t457 == 0) = true := beq_iff_eq.mpr c92
            have c92b1 : (t457 != 0) = false := bne_eq_false_iff_eq.mpr c92
            clear c92
            refine Classical.byCases (p := (t460 = true)) (fun c93 => ?x28) (fun c93 => ?y28)
            case' x28 =>
             subst c93
             have H1 : ((targumref4_Make.f kj26 t450 (⟨#[]⟩ : ByteArray) t459 t461).bind fun bt480 => (some (bt480.1, bt480.2.1, bt480.2.2.1, bt480.2.2.2.1, 2))) = some (r1, r2, r3, r4, r5) := by rw [if_pos rfl] at H; exact H
             clear H
             have H := H1
             clear H1
             replace H := Option.bind_eq_some_iff.mp H
             obtain ⟨⟨t480, t481, t482, t483, t484⟩, A940, H⟩ := H
             replace H : (some (t480, t481, t482, t483, 2)) = some (r1, r2, r3, r4, r5) := H
             have A94 := Aside0.mk A940
             clear A940
             simp only [Option.some.injEq, Prod.mk.injEq] at H
             obtain ⟨rfl, rfl, rfl, rfl, rfl⟩ := H
             go_wp2_with (first | ((with_reducible refine gate_callee (f := 39) rfl ?_); refine goesL_ (some 74) rfl rfl Tryd.func39 (by kernel_rfl) rfl #[.string ((t449.extract ((ji24) : Int).toNat t449.size).extract 0 (x10_26 : Int).toNat), .int .i64 10] rfl (by (try simp only [List.map_toArray, List.map_cons, List.map_nil]); first | done | (simp only [hji24]; rfl) | rfl | (simp only [List.length_drop, List.length_take]; rfl)) ?_; (with_reducible refine (targumref6_bare.calls kj26 ((t449.extract ((ji24) : Int).toNat t449.size).extract 0 (x10_26 : Int).toNat) 10 t459 true _ A42.out).mono ?_); rintro e w95 ⟨rfl, hb⟩; refine ⟨_, rfl, ?_⟩; have n0_ := Aside0.mk (blk_below (g := gb448) (o := .cells #[.int .i64 0, .bool false, .string (⟨#[]⟩ : ByteArray), .string (⟨#[]⟩ : ByteArray)] 28 (0, 0)) bk hb); have n1_ := Aside0.mk (blk_below (g := gb456) (o := .cells #[.int .i64 t451, .bool t452, .string t453, .string t454] 28 (0, 0)) bk hb); have n2_ := Aside0.mk (below_step bl hb); clear BK448; clear BK456; clear HB; have BK448 := n0_; have BK456 := n1_; have HB := n2_; clear n0_ n1_ n2_; (try clear hb); (try clear hb2); (try clear hk); (try clear hi)) | ((with_reducible refine gate_callee (f := 32) rfl ?_); refine goesL_ (some 81) rfl rfl Tryd.func32 (by kernel_rfl) rfl #[.string ((t449.extract ((ji24) : Int).toNat t449.size).extract (x10_26 : Int).toNat (t449.size - ((ji24) : Int).toNat)), .bool false] rfl (by (try simp only [List.map_toArray, List.map_cons, List.map_nil]); first | done | (simp only [hji24]; rfl) | rfl | (simp only [List.length_drop, List.length_take]; rfl)) ?_; (with_reducible refine (targumref6_tail.calls kj26 ((t449.extract ((ji24) : Int).toNat t449.size).extract (x10_26 : Int).toNat (t449.size - ((ji24) : Int).toNat)) false t461 true _ A45.out).mono ?_); rintro e w' ⟨rfl, ⟨nd, rfl⟩⟩; refine ⟨_, rfl, ?_⟩; (try (rw [drewN_self w95]; generalize hq_ : World.drewN w95 _ = w95; have n0_ : Aside0 (w95.heap[gb448]? = some (.cells #[.int .i64 0, .bool false, .string (⟨#[]⟩ : ByteArray), .string (⟨#[]⟩ : ByteArray)] 28 (0, 0))) := ⟨by rw [← hq_]; exact bk⟩; have n1_ : Aside0 (w95.heap[gb456]? = some (.cells #[.int .i64 t451, .bool t452, .string t453, .string t454] 28 (0, 0))) := ⟨by rw [← hq_]; exact bk⟩; have n2_ : Aside0 (Below w.heap.size w w95) := ⟨by rw [← hq_]; exact bl⟩; clear BK448 BK456 HB hq_; have BK448 := n0_; have BK456 := n1_; have HB := n2_; clear n0_ n1_ n2_))) | ((with_reducible refine gate_callee (f := 13) rfl ?_); refine goesL_ (some 137) rfl rfl Tryd.func13 (by kernel_rfl) rfl #[.bool t450, .string (⟨#[]⟩ : ByteArray), .string t459, .string t461] rfl (by (try simp only [List.map_toArray, List.map_cons, List.map_nil]); first | done | rfl | (simp only [List.length_drop, List.length_take]; rfl)) ?_; (with_reducible refine (targumref4_Make.calls kj26 t450 (⟨#[]⟩ : ByteArray) t459 t461 t480 t481 t482 t483 t484 _ A94.out).mono ?_); rintro e w96 ⟨rfl, hb⟩; refine ⟨_, rfl, ?_⟩; have n0_ := Aside0.mk (blk_below (g := gb448) (o := .cells #[.int .i64 0, .bool false, .string (⟨#[]⟩ : ByteArray), .string (⟨#[]⟩ : ByteArray)] 28 (0, 0)) bk hb); have n1_ := Aside0.mk (blk_below (g := gb456) (o := .cells #[.int .i64 t451, .bool t452, .string t453, .string t454] 28 (0, 0)) bk hb); have n2_ := Aside0.mk (below_step bl hb); clear BK448; clear BK456; clear HB; have BK448 := n0_; have BK456 := n1_; have HB := n2_; clear n0_ n1_ n2_; (try clear hb); (try clear hb2); (try clear hk); (try clear hi)) | ((with_reducible refine gate_dst (N := 19) rfl ?_); (try (refine gate_guard (by rfl) ?_; dsimp only)); refine box_event ?hg (N := 19) ?hd (cs := #[.int .i64 0, .bool false, .string (⟨#[]⟩ : ByteArray), .string (⟨#[]⟩ : ByteArray)]) (t := 28) ?hr ?_; (case hd => rfl); (case hg => rfl); (case hr => first | (go_simp; done) | (go_simp; rfl)); intro gb485 hg w97 hbox hb; have n0_ := Aside0.mk (blk_below (g := gb448) (o := .cells #[.int .i64 0, .bool false, .string (⟨#[]⟩ : ByteArray), .string (⟨#[]⟩ : ByteArray)] 28 (0, 0)) bk hb); have n1_ := Aside0.mk (blk_below (g := gb456) (o := .cells #[.int .i64 t451, .bool t452, .string t453, .string t454] 28 (0, 0)) bk hb); have n2_ := Aside0.mk (below_step bl hb); have n3_ := Aside0.mk (hbox); have n4_ := Aside0.mk ((by rw [hg]; exact (below_size bl) : w.heap.size ≤ gb485)); have n5_ := Aside0.mk ((by rw [hg]; exact (below_size bl) : w.heap.size ≤ gb485)); have n6_ := Aside0.mk ((by rw [hg]; exact Nat.ne_of_lt (blk_lt (g := gb448) (o := .cells #[.int .i64 0, .bool false, .string (⟨#[]⟩ : ByteArray), .string (⟨#[]⟩ : ByteArray)] 28 (0, 0)) bk) : gb448 ≠ gb485)); have n7_ := Aside0.mk ((by rw [hg]; exact Nat.ne_of_gt (blk_lt (g := gb448) (o := .cells #[.int .i64 0, .bool false, .string (⟨#[]⟩ : ByteArray), .string (⟨#[]⟩ : ByteArray)] 28 (0, 0)) bk) : gb485 ≠ gb448)); have n8_ := Aside0.mk ((by rw [hg]; exact Nat.ne_of_lt (blk_lt (g := gb456) (o := .cells #[.int .i64 t451, .bool t452, .string t453, .string t454] 28 (0, 0)) bk) : gb456 ≠ gb485)); have n9_ := Aside0.mk ((by rw [hg]; exact Nat.ne_of_gt (blk_lt (g := gb456) (o := .cells #[.int .i64 t451, .bool t452, .string t453, .string t454] 28 (0, 0)) bk) : gb485 ≠ gb456)); clear BK448; clear BK456; clear HB; have BK448 := n0_; have BK456 := n1_; have HB := n2_; have BK485 := n3_; have GW485 := n4_; have GE485 := n5_; have NB448_485 := n6_; have NB485_448 := n7_; have NB456_485 := n8_; have NB485_456 := n9_; clear n0_ n1_ n2_ n3_ n4_ n5_ n6_ n7_ n8_ n9_; clear hb hbox hg; have hnb98 := NB485_448.out; have hnc98 := NB448_485.out; have hnb99 := NB485_456.out; have hnc99 := NB456_485.out; have hcz100_0 : w97.cell? ⟨gb485, 0, none⟩ = some (.int .i64 0) := (blk_cell BK485.out 0).trans rfl; have hcz100_1 : w97.cell? ⟨gb485, 1, none⟩ = some (.bool false) := (blk_cell BK485.out 1).trans rfl; have hcz100_2 : w97.cell? ⟨gb485, 2, none⟩ = some (.string (⟨#[]⟩ : ByteArray)) := (blk_cell BK485.out 2).trans rfl; have hcz100_3 : w97.cell? ⟨gb485, 3, none⟩ = some (.string (⟨#[]⟩ : ByteArray)) := (blk_cell BK485.out 3).trans rfl; have hfz100_0 := blk_frozen BK485.out 0; have hfz100_1 := blk_frozen BK485.out 1; have hfz100_2 := blk_frozen BK485.out 2; have hfz100_3 := blk_frozen BK485.out 3; have hnb101 := NB448_456.out; have hnc101 := NB456_448.out; have hcz102_0 : w97.cell? ⟨gb448, 0, none⟩ = some (.int .i64 0) := (blk_cell BK448.out 0).trans rfl; have hcz102_1 : w97.cell? ⟨gb448, 1, none⟩ = some (.bool false) := (blk_cell BK448.out 1).trans rfl; have hcz102_2 : w97.cell? ⟨gb448, 2, none⟩ = some (.string (⟨#[]⟩ : ByteArray)) := (blk_cell BK448.out 2).trans rfl; have hcz102_3 : w97.cell? ⟨gb448, 3, none⟩ = some (.string (⟨#[]⟩ : ByteArray)) := (blk_cell BK448.out 3).trans rfl; have hfz102_0 := blk_frozen BK448.out 0; have hfz102_1 := blk_frozen BK448.out 1; have hfz102_2 := blk_frozen BK448.out 2; have hfz102_3 := blk_frozen BK448.out 3))
             refine bodyPost_ret (results_ct rfl _ _ gb448 28 #[.int .i64 t480, .bool t481, .string t482, .string t483] (0, 0) _ rfl bk Tryd.underlying28 rfl (by kernel_rfl)) rfl ?_
             exact ⟨by first | rfl | (simp [errW_none, errW_some] <;> rfl) | (simp only [← hji24]; first | rfl | (simp [errW_none, errW_some] <;> rfl)) | (simp [*, errW_none, errW_some] <;> rfl), bl⟩
            case' y28 =>
             replace c93 := Bool.eq_false_iff.mpr c93
             subst c93
             have H1 : (some (0, false, (⟨#[]⟩ : ByteArray), (⟨#[]⟩ : ByteArray), 0)) = some (r1, r2, r3, r4, r5) := by rw [if_neg (show ¬ (false = true) by decide)] at H; exact H
             clear H
             have H := H1
             clear H1
             simp only [Option.some.injEq, Prod.mk.injEq] at H
             obtain ⟨rfl, rfl, rfl, rfl, rfl⟩ := H
             skip
           case' y27 =>
            rw [if_neg c92] at H
            have c92b0 : (t457 == 0) = false := beq_eq_false_iff_ne.mpr c92
            have c92b1 : (t457 != 0) = true := bne_iff_ne.mpr c92
            replace H := Option.bind_eq_some_iff.mp H
            obtain ⟨⟨t486, t487, t488, t489, t490⟩, A1060, H⟩ := H
            replace H : (some (t486, t487, t488, t489, 2)) = some (r1, r2, r3, r4, r5) := H
            have A106 := Aside0.mk A1060
            clear A1060
            simp only [Option.some.injEq, Prod.mk.injEq] at H
            obtain ⟨rfl, rfl, rfl, rfl, rfl⟩ := H
            go_wp2_with (first | ((with_reducible refine gate_callee (f := 39) rfl ?_); refine goesL_ (some 74) rfl rfl Tryd.func39 (by kernel_rfl) rfl #[.string ((t449.extract ((ji24) : Int).toNat t449.size).extract 0 (x10_26 : Int).toNat), .int .i64 10] rfl (by (try simp only [List.map_toArray, List.map_cons, List.map_nil]); first | done | (simp only [hji24]; rfl) | rfl | (simp only [List.length_drop, List.length_take]; rfl)) ?_; (with_reducible refine (targumref6_bare.calls kj26 ((t449.extract ((ji24) : Int).toNat t449.size).extract 0 (x10_26 : Int).toNat) 10 t459 t460 _ A42.out).mono ?_); rintro e w107 ⟨rfl, hb⟩; refine ⟨_, rfl, ?_⟩; have n0_ := Aside0.mk (blk_below (g := gb448) (o := .cells #[.int .i64 0, .bool false, .string (⟨#[]⟩ : ByteArray), .string (⟨#[]⟩ : ByteArray)] 28 (0, 0)) bk hb); have n1_ := Aside0.mk (blk_below (g := gb456) (o := .cells #[.int .i64 t451, .bool t452, .string t453, .string t454] 28 (0, 0)) bk hb); have n2_ := Aside0.mk (below_step bl hb); clear BK448; clear BK456; clear HB; have BK448 := n0_; have BK456 := n1_; have HB := n2_; clear n0_ n1_ n2_; (try clear hb); (try clear hb2); (try clear hk); (try clear hi)) | ((with_reducible refine gate_callee (f := 32) rfl ?_); refine goesL_ (some 81) rfl rfl Tryd.func32 (by kernel_rfl) rfl #[.string ((t449.extract ((ji24) : Int).toNat t449.size).extract (x10_26 : Int).toNat (t449.size - ((ji24) : Int).toNat)), .bool false] rfl (by (try simp only [List.map_toArray, List.map_cons, List.map_nil]); first | done | (simp only [hji24]; rfl) | rfl | (simp only [List.length_drop, List.length_take]; rfl)) ?_; (with_reducible refine (targumref6_tail.calls kj26 ((t449.extract ((ji24) : Int).toNat t449.size).extract (x10_26 : Int).toNat (t449.size - ((ji24) : Int).toNat)) false t461 true _ A45.out).mono ?_); rintro e w' ⟨rfl, ⟨nd, rfl⟩⟩; refine ⟨_, rfl, ?_⟩; (try (rw [drewN_self w107]; generalize hq_ : World.drewN w107 _ = w107; have n0_ : Aside0 (w107.heap[gb448]? = some (.cells #[.int .i64 0, .bool false, .string (⟨#[]⟩ : ByteArray), .string (⟨#[]⟩ : ByteArray)] 28 (0, 0))) := ⟨by rw [← hq_]; exact bk⟩; have n1_ : Aside0 (w107.heap[gb456]? = some (.cells #[.int .i64 t451, .bool t452, .string t453, .string t454] 28 (0, 0))) := ⟨by rw [← hq_]; exact bk⟩; have n2_ : Aside0 (Below w.heap.size w w107) := ⟨by rw [← hq_]; exact bl⟩; clear BK448 BK456 HB hq_; have BK448 := n0_; have BK456 := n1_; have HB := n2_; clear n0_ n1_ n2_))) | ((with_reducible refine gate_callee (f := 13) rfl ?_); refine goesL_ (some 137) rfl rfl Tryd.func13 (by kernel_rfl) rfl #[.bool t450, .string (⟨#[]⟩ : ByteArray), .string t459, .string t461] rfl (by (try simp only [List.map_toArray, List.map_cons, List.map_nil]); first | done | rfl | (simp only [List.length_drop, List.length_take]; rfl)) ?_; (with_reducible refine (targumref4_Make.calls kj26 t450 (⟨#[]⟩ : ByteArray) t459 t461 t486 t487 t488 t489 t490 _ A106.out).mono ?_); rintro e w108 ⟨rfl, hb⟩; refine ⟨_, rfl, ?_⟩; have n0_ := Aside0.mk (blk_below (g := gb448) (o := .cells #[.int .i64 0, .bool false, .string (⟨#[]⟩ : ByteArray), .string (⟨#[]⟩ : ByteArray)] 28 (0, 0)) bk hb); have n1_ := Aside0.mk (blk_below (g := gb456) (o := .cells #[.int .i64 t451, .bool t452, .string t453, .string t454] 28 (0, 0)) bk hb); have n2_ := Aside0.mk (below_step bl hb); clear BK448; clear BK456; clear HB; have BK448 := n0_; have BK456 := n1_; have HB := n2_; clear n0_ n1_ n2_; (try clear hb); (try clear hb2); (try clear hk); (try clear hi)) | ((with_reducible refine gate_dst (N := 19) rfl ?_); (try (refine gate_guard (by rfl) ?_; dsimp only)); refine box_event ?hg (N := 19) ?hd (cs := #[.int .i64 0, .bool false, .string (⟨#[]⟩ : ByteArray), .string (⟨#[]⟩ : ByteArray)]) (t := 28) ?hr ?_; (case hd => rfl); (case hg => rfl); (case hr => first | (go_simp; done) | (go_simp; rfl)); intro gb491 hg w109 hbox hb; have n0_ := Aside0.mk (blk_below (g := gb448) (o := .cells #[.int .i64 0, .bool false, .string (⟨#[]⟩ : ByteArray), .string (⟨#[]⟩ : ByteArray)] 28 (0, 0)) bk hb); have n1_ := Aside0.mk (blk_below (g := gb456) (o := .cells #[.int .i64 t451, .bool t452, .string t453, .string t454] 28 (0, 0)) bk hb); have n2_ := Aside0.mk (below_step bl hb); have n3_ := Aside0.mk (hbox); have n4_ := Aside0.mk ((by rw [hg]; exact (below_size bl) : w.heap.size ≤ gb491)); have n5_ := Aside0.mk ((by rw [hg]; exact (below_size bl) : w.heap.size ≤ gb491)); have n6_ := Aside0.mk ((by rw [hg]; exact Nat.ne_of_lt (blk_lt (g := gb448) (o := .cells #[.int .i64 0, .bool false, .string (⟨#[]⟩ : ByteArray), .string (⟨#[]⟩ : ByteArray)] 28 (0, 0)) bk) : gb448 ≠ gb491)); have n7_ := Aside0.mk ((by rw [hg]; exact Nat.ne_of_gt (blk_lt (g := gb448) (o := .cells #[.int .i64 0, .bool false, .string (⟨#[]⟩ : ByteArray), .string (⟨#[]⟩ : ByteArray)] 28 (0, 0)) bk) : gb491 ≠ gb448)); have n8_ := Aside0.mk ((by rw [hg]; exact Nat.ne_of_lt (blk_lt (g := gb456) (o := .cells #[.int .i64 t451, .bool t452, .string t453, .string t454] 28 (0, 0)) bk) : gb456 ≠ gb491)); have n9_ := Aside0.mk ((by rw [hg]; exact Nat.ne_of_gt (blk_lt (g := gb456) (o := .cells #[.int .i64 t451, .bool t452, .string t453, .string t454] 28 (0, 0)) bk) : gb491 ≠ gb456)); clear BK448; clear BK456; clear HB; have BK448 := n0_; have BK456 := n1_; have HB := n2_; have BK491 := n3_; have GW491 := n4_; have GE491 := n5_; have NB448_491 := n6_; have NB491_448 := n7_; have NB456_491 := n8_; have NB491_456 := n9_; clear n0_ n1_ n2_ n3_ n4_ n5_ n6_ n7_ n8_ n9_; clear hb hbox hg; have hnb110 := NB491_448.out; have hnc110 := NB448_491.out; have hnb111 := NB491_456.out; have hnc111 := NB456_491.out; have hcz112_0 : w109.cell? ⟨gb491, 0, none⟩ = some (.int .i64 0) := (blk_cell BK491.out 0).trans rfl; have hcz112_1 : w109.cell? ⟨gb491, 1, none⟩ = some (.bool false) := (blk_cell BK491.out 1).trans rfl; have hcz112_2 : w109.cell? ⟨gb491, 2, none⟩ = some (.string (⟨#[]⟩ : ByteArray)) := (blk_cell BK491.out 2).trans rfl; have hcz112_3 : w109.cell? ⟨gb491, 3, none⟩ = some (.string (⟨#[]⟩ : ByteArray)) := (blk_cell BK491.out 3).trans rfl; have hfz112_0 := blk_frozen BK491.out 0; have hfz112_1 := blk_frozen BK491.out 1; have hfz112_2 := blk_frozen BK491.out 2; have hfz112_3 := blk_frozen BK491.out 3; have hnb113 := NB448_456.out; have hnc113 := NB456_448.out; have hcz114_0 : w109.cell? ⟨gb448, 0, none⟩ = some (.int .i64 0) := (blk_cell BK448.out 0).trans rfl; have hcz114_1 : w109.cell? ⟨gb448, 1, none⟩ = some (.bool false) := (blk_cell BK448.out 1).trans rfl; have hcz114_2 : w109.cell? ⟨gb448, 2, none⟩ = some (.string (⟨#[]⟩ : ByteArray)) := (blk_cell BK448.out 2).trans rfl; have hcz114_3 : w109.cell? ⟨gb448, 3, none⟩ = some (.string (⟨#[]⟩ : ByteArray)) := (blk_cell BK448.out 3).trans rfl; have hfz114_0 := blk_frozen BK448.out 0; have hfz114_1 := blk_frozen BK448.out 1; have hfz114_2 := blk_frozen BK448.out 2; have hfz114_3 := blk_frozen BK448.out 3))
            refine bodyPost_ret (results_ct rfl _ _ gb448 28 #[.int .i64 t486, .bool t487, .string t488, .string t489] (0, 0) _ rfl bk Tryd.underlying28 rfl (by kernel_rfl)) rfl ?_
            exact ⟨by first | rfl | (simp [errW_none, errW_some] <;> rfl) | (simp only [← hji24]; first | rfl | (simp [errW_none, errW_some] <;> rfl)) | (simp [*, errW_none, errW_some] <;> rfl), bl⟩
         case' y25 =>
          replace c46 := Bool.eq_false_iff.mpr c46
          subst c46
          have H1 : (some (0, false, (⟨#[]⟩ : ByteArray), (⟨#[]⟩ : ByteArray), 0)) = some (r1, r2, r3, r4, r5) := by rw [if_neg (show ¬ (false = true) by decide)] at H; exact H
          clear H
          have H := H1
          clear H1
          simp only [Option.some.injEq, Prod.mk.injEq] at H
          obtain ⟨rfl, rfl, rfl, rfl, rfl⟩ := H
          skip
         case x25 | y25 =>
          as_aux_lemma =>
           go_wp2_with (first | ((with_reducible refine gate_callee (f := 39) rfl ?_); refine goesL_ (some 74) rfl rfl Tryd.func39 (by kernel_rfl) rfl #[.string ((t449.extract ((ji24) : Int).toNat t449.size).extract 0 (x10_26 : Int).toNat), .int .i64 10] rfl (by (try simp only [List.map_toArray, List.map_cons, List.map_nil]); first | done | (simp only [hji24]; rfl) | rfl | (simp only [List.length_drop, List.length_take]; rfl)) ?_; (with_reducible refine (targumref6_bare.calls _ _ _ _ _ _ A42.out).mono ?_); rintro e w103 ⟨rfl, hb⟩; refine ⟨_, rfl, ?_⟩; have n0_ := Aside0.mk (blk_below (g := gb448) (o := .cells #[.int .i64 0, .bool false, .string (⟨#[]⟩ : ByteArray), .string (⟨#[]⟩ : ByteArray)] 28 (0, 0)) bk hb); have n1_ := Aside0.mk (blk_below (g := gb456) (o := .cells #[.int .i64 t451, .bool t452, .string t453, .string t454] 28 (0, 0)) bk hb); have n2_ := Aside0.mk (below_step bl hb); clear BK448; clear BK456; clear HB; have BK448 := n0_; have BK456 := n1_; have HB := n2_; clear n0_ n1_ n2_; (try clear hb); (try clear hb2); (try clear hk); (try clear hi)) | ((with_reducible refine gate_callee (f := 32) rfl ?_); refine goesL_ (some 81) rfl rfl Tryd.func32 (by kernel_rfl) rfl #[.string ((t449.extract ((ji24) : Int).toNat t449.size).extract (x10_26 : Int).toNat (t449.size - ((ji24) : Int).toNat)), .bool false] rfl (by (try simp only [List.map_toArray, List.map_cons, List.map_nil]); first | done | (simp only [hji24]; rfl) | rfl | (simp only [List.length_drop, List.length_take]; rfl)) ?_; (with_reducible refine (targumref6_tail.calls _ _ _ _ _ _ A45.out).mono ?_); rintro e w' ⟨rfl, ⟨nd, rfl⟩⟩; refine ⟨_, rfl, ?_⟩; (try (rw [drewN_self w103]; generalize hq_ : World.drewN w103 _ = w103; have n0_ : Aside0 (w103.heap[gb448]? = some (.cells #[.int .i64 0, .bool false, .string (⟨#[]⟩ : ByteArray), .string (⟨#[]⟩ : ByteArray)] 28 (0, 0))) := ⟨by rw [← hq_]; exact bk⟩; have n1_ : Aside0 (w103.heap[gb456]? = some (.cells #[.int .i64 t451, .bool t452, .string t453, .string t454] 28 (0, 0))) := ⟨by rw [← hq_]; exact bk⟩; have n2_ : Aside0 (Below w.heap.size w w103) := ⟨by rw [← hq_]; exact bl⟩; clear BK448 BK456 HB hq_; have BK448 := n0_; have BK456 := n1_; have HB := n2_; clear n0_ n1_ n2_)); have hnb104 := NB448_456.out; have hnc104 := NB456_448.out; have hcz105_0 : w103.cell? ⟨gb448, 0, none⟩ = some (.int .i64 0) := (blk_cell BK448.out 0).trans rfl; have hcz105_1 : w103.cell? ⟨gb448, 1, none⟩ = some (.bool false) := (blk_cell BK448.out 1).trans rfl; have hcz105_2 : w103.cell? ⟨gb448, 2, none⟩ = some (.string (⟨#[]⟩ : ByteArray)) := (blk_cell BK448.out 2).trans rfl; have hcz105_3 : w103.cell? ⟨gb448, 3, none⟩ = some (.string (⟨#[]⟩ : ByteArray)) := (blk_cell BK448.out 3).trans rfl; have hfz105_0 := blk_frozen BK448.out 0; have hfz105_1 := blk_frozen BK448.out 1; have hfz105_2 := blk_frozen BK448.out 2; have hfz105_3 := blk_frozen BK448.out 3))
           refine bodyPost_ret (results_ct rfl _ _ gb448 28 #[.int .i64 0, .bool false, .string (⟨#[]⟩ : ByteArray), .string (⟨#[]⟩ : ByteArray)] (0, 0) _ rfl bk Tryd.underlying28 rfl (by kernel_rfl)) rfl ?_
           exact ⟨by first | rfl | (simp [errW_none, errW_some] <;> rfl) | (simp only [← hji24]; first | rfl | (simp [errW_none, errW_some] <;> rfl)) | (simp [*, errW_none, errW_some] <;> rfl), bl⟩
        ·rw [if_neg c41] at H
         exact absurd H (by simp)
       ·rw [if_neg c40] at H
        exact absurd H (by simp)
    ·rw [if_neg c26] at H
     exact absurd H (by simp)
   ·rw [if_neg c25] at H
    exact absurd H (by simp)

end Go.Proofs.YtbjlcipamdgnjaaDoor.PN
