/- Written by this session's own program (xprint, made over the kit's print): Lean functions with the same answers as the Go functions, and the proofs of that. Not trusted: Lean checks it. -/
import Derived.Test.YtddaggnomcoejaaDoorPDx0
import Derived.Test.YtddaggnomcoejaaDoorPDx1
import Derived.Test.YtddaggnomcoejaaDoorPDx2
import Derived.Test.YtddaggnomcoejaaDoorXW
namespace Go.Proofs.YtddaggnomcoejaaDoor.PD
open Go.Proofs.YtddaggnomcoejaaDoor.XW Go.RowKit Go.Proofs.YtddaggnomcoejaaDoorW.PrintWords Go.Proofs.YtddaggnomcoejaaDoorW.PrintLast Go.Proofs.YtddaggnomcoejaaDoorW.PrintMore
attribute [local go_sem] max2_int min2_int max_two min_two max_three min_three max_four min_four   -- for this text's walks alone
set_option linter.unusedVariables false
set_option linter.unusedSimpArgs false

attribute [local go_sem high] eqA40
/-! ### dec_digits: function 54 -/
def dec_digits.f (a0 : ByteArray) : Option (Bool) := (strings_Trim.f a0 (⟨#[48, 49, 50, 51, 52, 53, 54, 55, 56, 57]⟩ : ByteArray)).bind fun t125 => (some (t125.toList == ([] : List UInt8)))
set_option maxHeartbeats 40000000 in
set_option maxRecDepth 100000 in
theorem dec_digits.calls (a0 : ByteArray) (r : Bool) (w : World) (h : dec_digits.f a0 = some r) :
  Calls Tryd.prog 54 #[.string a0] w fun e w' => e = .returned (.bool r) ∧ Below w.heap.size w w' := by
 have HB := Aside0.mk (Below.refl w.heap.size w)
 have H : ((strings_Trim.f a0 (⟨#[48, 49, 50, 51, 52, 53, 54, 55, 56, 57]⟩ : ByteArray)).bind fun t125 => (some (t125.toList == ([] : List UInt8)))) = some r := h
 clear h
 replace H := Option.bind_eq_some_iff.mp H
 obtain ⟨t125, A20, H⟩ := H
 replace H : (some (t125.toList == ([] : List UInt8))) = some r := H
 have A2 := Aside0.mk A20
 clear A20
 obtain rfl := Option.some.inj H
 go_enter Tryd.func54, Tryd.ntmps54
 go_wp2_with (first | ((with_reducible refine gate_callee (f := 69) rfl ?_); refine goesL_ (some 4) rfl rfl Tryd.func69 (by kernel_rfl) rfl #[.string a0, .string (⟨#[48, 49, 50, 51, 52, 53, 54, 55, 56, 57]⟩ : ByteArray)] rfl (by (try simp only [List.map_toArray, List.map_cons, List.map_nil]); first | done | rfl | (simp only [List.length_drop, List.length_take]; rfl)) ?_; (with_reducible refine (strings_Trim.calls a0 (⟨#[48, 49, 50, 51, 52, 53, 54, 55, 56, 57]⟩ : ByteArray) t125 _ A2.out).mono ?_); rintro e w3 ⟨rfl, hb⟩; refine ⟨_, rfl, ?_⟩; have n0_ := Aside0.mk (below_step bl hb); clear HB; have HB := n0_; clear n0_; (try clear hb); (try clear hb2); (try clear hk); (try clear hi)))
 go_ret
 exact ⟨by first | rfl | (simp [errW_none, errW_some] <;> rfl) | (simp [*, errW_none, errW_some] <;> rfl) | ((generalize ByteArray.toList _ = z_); cases z_ <;> first | rfl | (simp; done)), bl⟩

/-! ### strings_TrimRight: function 55 -/

def strings_TrimRight.f (a0 : ByteArray) (a1 : ByteArray) : Option (ByteArray) := if a1.data.toList.all (fun b => decide (b.toNat < 128)) = true ∧ a1.size < 1000 ∧ a0.size ≤ 9223372036854775807 then some ⟨(Lib.trimRightS a0.data.toList a1.data.toList).toArray⟩ else none
theorem strings_TrimRight.calls (a0 : ByteArray) (a1 : ByteArray) (r : ByteArray) (w : World) (h : strings_TrimRight.f a0 a1 = some r) :
  Calls Tryd.prog 55 #[.string a0, .string a1] w fun e w' => e = .returned (.string r) ∧ Below w.heap.size w w' := by
 unfold strings_TrimRight.f at h
 split at h
 ·rename_i hc
  obtain ⟨h1, h2, h3⟩ := hc
  obtain rfl := Option.some.inj h
  refine (Any.strings_TrimRight_laid Tryd.lays162 (by kernel_rfl) a0 a1 w h3 (by omega) (fun j b hb => ?_)).mono fun e w' hh => hh
  exact of_decide_eq_true (List.all_eq_true.1 h1 b (List.mem_of_getElem? hb))
 ·cases h

/-! ### dec_nought: function 56 -/
def dec_nought.f (a0 : Bool) : Option (Int × Bool × ByteArray × ByteArray) := some (0, a0, (⟨#[48]⟩ : ByteArray), (⟨#[48]⟩ : ByteArray))
set_option maxHeartbeats 40000000 in
set_option maxRecDepth 100000 in
theorem dec_nought.calls (a0 : Bool) (r1 : Int) (r2 : Bool) (r3 : ByteArray) (r4 : ByteArray) (w : World) (h : dec_nought.f a0 = some (r1, r2, r3, r4)) :
  Calls Tryd.prog 56 #[.bool a0] w fun e w' => e = .returned (.agg #[.int .i64 r1, .bool r2, .string r3, .string r4]) ∧ Below w.heap.size w w' := by
 have hu40 := Tryd.underlying40
 have HB := Aside0.mk (Below.refl w.heap.size w)
 have H : (some (0, a0, (⟨#[48]⟩ : ByteArray), (⟨#[48]⟩ : ByteArray))) = some (r1, r2, r3, r4) := h
 clear h
 simp only [Option.some.injEq, Prod.mk.injEq] at H
 obtain ⟨rfl, rfl, rfl, rfl⟩ := H
 go_enter Tryd.func56, Tryd.ntmps56
 go_wp2_with (first | ((with_reducible refine gate_dst (N := 2) rfl ?_); refine box_event ?hg (N := 2) ?hd (cs := #[.int .i64 0, .bool false, .string (⟨#[]⟩ : ByteArray), .string (⟨#[]⟩ : ByteArray)]) (t := 40) ?hr ?_; (case hd => rfl); (case hg => rfl); (case hr => first | (go_simp; done) | (go_simp; rfl)); intro gb126 hg w2 hbox hb; have n0_ := Aside0.mk (below_step bl hb); have n1_ := Aside0.mk (hbox); have n2_ := Aside0.mk ((by rw [hg]; exact (below_size bl) : w.heap.size ≤ gb126)); have n3_ := Aside0.mk ((by rw [hg]; exact (below_size bl) : w.heap.size ≤ gb126)); clear HB; have HB := n0_; have BK126 := n1_; have GW126 := n2_; have GE126 := n3_; clear n0_ n1_ n2_ n3_; clear hb hbox hg; have hcz3_0 : w2.cell? ⟨gb126, 0, none⟩ = some (.int .i64 0) := (blk_cell BK126.out 0).trans rfl; have hcz3_1 : w2.cell? ⟨gb126, 1, none⟩ = some (.bool false) := (blk_cell BK126.out 1).trans rfl; have hcz3_2 : w2.cell? ⟨gb126, 2, none⟩ = some (.string (⟨#[]⟩ : ByteArray)) := (blk_cell BK126.out 2).trans rfl; have hcz3_3 : w2.cell? ⟨gb126, 3, none⟩ = some (.string (⟨#[]⟩ : ByteArray)) := (blk_cell BK126.out 3).trans rfl; have hfz3_0 := blk_frozen BK126.out 0; have hfz3_1 := blk_frozen BK126.out 1; have hfz3_2 := blk_frozen BK126.out 2; have hfz3_3 := blk_frozen BK126.out 3))
 refine bodyPost_ret (results_cell_row rfl _ _ gb126 40 #[.int .i64 0, .bool a0, .string (⟨#[48]⟩ : ByteArray), .string (⟨#[48]⟩ : ByteArray)] (0, 0) _ rfl bk Tryd.underlying40 rfl (by kernel_rfl)) rfl ?_
 exact ⟨by first | rfl | (simp [errW_none, errW_some] <;> rfl) | (simp [*, errW_none, errW_some] <;> rfl) | ((generalize ByteArray.toList _ = z_); cases z_ <;> first | rfl | (simp; done)), bl⟩

/-! ### dec_Make: function 29 -/
def dec_Make.j0 : Nat → Bool → ByteArray → ByteArray → ByteArray → Bool → Option (Int × Bool × ByteArray × ByteArray × Bool)
 | 0, _, _, _, _, _ => none
 | k + 1, x0, x2, x3, x10, x26 => if x26 = true then (some (0, false, (⟨#[]⟩ : ByteArray), (⟨#[]⟩ : ByteArray), false)) else ((strings_TrimRight.f x10 (⟨#[48]⟩ : ByteArray)).bind fun t130 => ((big_Add.f k x3 (wrap64 ((wrap64 ((x10.size : Int) - (t130.size : Int))) - (x2.size : Int)))).bind fun t131 => ((strings_TrimLeft.f t130 (⟨#[48]⟩ : ByteArray)).bind fun t132 => (if t132.toList = ([] : List UInt8) then ((dec_nought.f x0).bind fun bt133 => (some (bt133.1, bt133.2.1, bt133.2.2.1, bt133.2.2.2, true))) else (some (0, x0, t132, t131, true))))))
def dec_Make.f (k : Nat) (a0 : Bool) (a1 : ByteArray) (a2 : ByteArray) (a3 : ByteArray) : Option (Int × Bool × ByteArray × ByteArray × Bool) := if a1.size + a2.size ≤ 9223372036854775807 then (if (a1 ++ a2).toList = ([] : List UInt8) then (dec_Make.j0 k a0 a2 a3 (a1 ++ a2) true) else ((dec_digits.f (a1 ++ a2)).bind fun t128 => (if t128 = true then ((big_Good.f k a3).bind fun t129 => (dec_Make.j0 k a0 a2 a3 (a1 ++ a2) (!t129))) else (dec_Make.j0 k a0 a2 a3 (a1 ++ a2) true)))) else (none)
theorem dec_Make.mono_l : ∀ k, (∀ y0 y1 y2 y3 y4, LeO (dec_Make.j0 k y0 y1 y2 y3 y4) (dec_Make.j0 (k + 1) y0 y1 y2 y3 y4))
 | 0 => fun _ _ _ _ _ r h => by simp [dec_Make.j0] at h
 | k + 1 => by
  have ih0 := dec_Make.mono_l k
  ·intro y0 y1 y2 y3 y4
   unfold dec_Make.j0
   repeat' first
   | (with_reducible exact ih0 _ _ _ _ _)
   | (with_reducible exact big_Add.mono _ _ _)
   | (with_reducible exact big_Good.mono _ _)
   | (with_reducible exact LeO.refl _)
   | (with_reducible exact LeO.none _)
   | (with_reducible refine LeO.ite ?_ ?_)
   | (with_reducible refine LeO.bind ?_ (fun _ => ?_))
   | exact ih0 _ _ _ _ _
   | exact big_Add.mono _ _ _
   | exact big_Good.mono _ _
   | exact LeO.none _
   | refine LeO.ite ?_ ?_
   | refine LeO.bind ?_ (fun _ => ?_)
theorem dec_Make.mono : ∀ a0 a1 a2 a3 k, LeO (dec_Make.f k a0 a1 a2 a3) (dec_Make.f (k + 1) a0 a1 a2 a3) := by
 intro a0 a1 a2 a3 k
 have ih0 := dec_Make.mono_l k
 unfold dec_Make.f
 repeat' first
   | (with_reducible exact ih0 _ _ _ _ _)
   | (with_reducible exact big_Add.mono _ _ _)
   | (with_reducible exact big_Good.mono _ _)
   | (with_reducible exact LeO.refl _)
   | (with_reducible exact LeO.none _)
   | (with_reducible refine LeO.ite ?_ ?_)
   | (with_reducible refine LeO.bind ?_ (fun _ => ?_))
   | exact ih0 _ _ _ _ _
   | exact big_Add.mono _ _ _
   | exact big_Good.mono _ _
   | exact LeO.none _
   | refine LeO.ite ?_ ?_
   | refine LeO.bind ?_ (fun _ => ?_)
set_option maxHeartbeats 40000000 in
set_option maxRecDepth 100000 in
theorem dec_Make.calls (k : Nat) (a0 : Bool) (a1 : ByteArray) (a2 : ByteArray) (a3 : ByteArray) (r1 : Int) (r2 : Bool) (r3 : ByteArray) (r4 : ByteArray) (r5 : Bool) (w : World) (hG : Go.Proofs.YtddaggnomcoejaaDoor.PDT.Tabs w) (h : dec_Make.f k a0 a1 a2 a3 = some (r1, r2, r3, r4, r5)) :
  Calls Tryd.prog 29 #[.bool a0, .string a1, .string a2, .string a3] w fun e w' => e = .returned (.tuple #[.agg #[.int .i64 r1, .bool r2, .string r3, .string r4], .bool r5]) ∧ Below w.heap.size w w' := by
 have hu40 := Tryd.underlying40
 have HG := Aside0.mk hG
 clear hG
 have HB := Aside0.mk (Below.refl w.heap.size w)
 have H : (if a1.size + a2.size ≤ 9223372036854775807 then (if (a1 ++ a2).toList = ([] : List UInt8) then (dec_Make.j0 k a0 a2 a3 (a1 ++ a2) true) else ((dec_digits.f (a1 ++ a2)).bind fun t128 => (if t128 = true then ((big_Good.f k a3).bind fun t129 => (dec_Make.j0 k a0 a2 a3 (a1 ++ a2) (!t129))) else (dec_Make.j0 k a0 a2 a3 (a1 ++ a2) true)))) else (none)) = some (r1, r2, r3, r4, r5) := h
 clear h
 by_cases c5 : a1.size + a2.size ≤ 9223372036854775807
 ·rw [if_pos c5] at H
  have c5b0 := eq_true c5
  have c5b1 : decide (a1.size + a2.size ≤ 9223372036854775807) = true := decide_eq_true c5
  try have c5b2 : (9223372036854775807 < a1.size + a2.size) = False := eq_false (Nat.not_lt.2 c5)
  have HC6 := Aside0.mk H
  clear H
  go_enter Tryd.func29, Tryd.ntmps29
  go_upto_region 2 with (first | ((with_reducible refine gate_dst (N := 8) rfl ?_); refine box_event ?hg (N := 8) ?hd (cs := #[.int .i64 0, .bool false, .string (⟨#[]⟩ : ByteArray), .string (⟨#[]⟩ : ByteArray)]) (t := 40) ?hr ?_; (case hd => rfl); (case hg => rfl); (case hr => first | (go_simp; done) | (go_simp; rfl)); intro gb127 hg w7 hbox hb; have n0_ := Aside0.mk (below_step bl hb); have n1_ := Aside0.mk (hbox); have n2_ := Aside0.mk ((by rw [hg]; exact (below_size bl) : w.heap.size ≤ gb127)); have n3_ := Aside0.mk ((by rw [hg]; exact (below_size bl) : w.heap.size ≤ gb127)); clear HB; have HB := n0_; have BK127 := n1_; have GW127 := n2_; have GE127 := n3_; clear n0_ n1_ n2_ n3_; clear hb hbox hg))
  (try simp only [Act.put, List.setIfInBounds_toArray, List.set_cons_zero, List.set_cons_succ])
  go_cut [26] (fun v26 wc => ∃ (kq : Nat) (x26_5 : Bool), v26 = .bool x26_5 ∧ Aside0 (dec_Make.j0 kq a0 a2 a3 (a1 ++ a2) x26_5 = some (r1, r2, r3, r4, r5)) ∧ Aside0 (kq ≤ k) ∧ Aside0 (wc.heap[gb127]? = some (.cells #[.int .i64 0, .bool false, .string (⟨#[]⟩ : ByteArray), .string (⟨#[]⟩ : ByteArray)] 40 (0, 0))) ∧ Aside0 (Below w.heap.size w wc))
  case first =>
   have H := HC6.out
   clear HC6
   by_cases c8 : (a1 ++ a2).toList = ([] : List UInt8)
   ·rw [if_pos c8] at H
    have c8b0 : ((a1 ++ a2).toList == ([] : List UInt8)) = true := beq_iff_eq.mpr c8
    have c8b1 : ((a1 ++ a2).toList != ([] : List UInt8)) = false := bne_eq_false_iff_eq.mpr c8
    clear c8
    (first | rw [c8b0] | (simp only [i64_w, i32_w]; rw [c8b0]) | skip)
    have H' := Aside0.mk H
    clear H
    go_wp2
    go_meet
    case rel => exact ⟨_, (true), (by first | rfl | (simp; done) | (simp [*]; done) | (simp [wrap64]; done)), H', ⟨by first | omega | exact Nat.le_refl _⟩, ⟨by (with_reducible repeat (first | refine blk_drewN ?_ _ | refine blk_drew ?_ | refine blk_alloc ?_ _)); exact BK127.out⟩, ⟨bl⟩⟩
   ·rw [if_neg c8] at H
    have c8b0 : ((a1 ++ a2).toList == ([] : List UInt8)) = false := beq_eq_false_iff_ne.mpr c8
    have c8b1 : ((a1 ++ a2).toList != ([] : List UInt8)) = true := bne_iff_ne.mpr c8
    (first | rw [c8b0] | (simp only [i64_w, i32_w]; rw [c8b0]) | skip)
    replace H := Option.bind_eq_some_iff.mp H
    obtain ⟨t128, A90, H⟩ := H
    replace H : (if t128 = true then ((big_Good.f k a3).bind fun t129 => (dec_Make.j0 k a0 a2 a3 (a1 ++ a2) (!t129))) else (dec_Make.j0 k a0 a2 a3 (a1 ++ a2) true)) = some (r1, r2, r3, r4, r5) := H
    have A9 := Aside0.mk A90
    clear A90
    by_cases c10 : t128 = true
    ·subst c10
     have H1 : ((big_Good.f k a3).bind fun t129 => (dec_Make.j0 k a0 a2 a3 (a1 ++ a2) (!t129))) = some (r1, r2, r3, r4, r5) := by rw [if_pos rfl] at H; exact H
     clear H
     have H := H1
     clear H1
     replace H := Option.bind_eq_some_iff.mp H
     obtain ⟨t129, A110, H⟩ := H
     replace H : (dec_Make.j0 k a0 a2 a3 (a1 ++ a2) (!t129)) = some (r1, r2, r3, r4, r5) := H
     have A11 := Aside0.mk A110
     clear A110
     have H' := Aside0.mk H
     clear H
     go_wp2_with (first | (go_at_call 54; (try (rename_i hK_; simp only [List.append] at hK_)); (with_reducible refine (dec_digits.calls (a1 ++ a2) true _ A9.out).mono ?_); rintro e w12 ⟨rfl, hb⟩; have n0_ := Aside0.mk (blk_below (g := gb127) (o := .cells #[.int .i64 0, .bool false, .string (⟨#[]⟩ : ByteArray), .string (⟨#[]⟩ : ByteArray)] 40 (0, 0)) bk hb); have n1_ := Aside0.mk (below_step bl hb); clear BK127; clear HB; have BK127 := n0_; have HB := n1_; clear n0_ n1_; (try clear hb); (try clear hb2); (try clear hk); (try clear hi)) | (go_at_call 16; (try (rename_i hK_; simp only [List.append] at hK_)); (with_reducible refine (big_Good.calls k a3 t129 _ A11.out).mono ?_); rintro e w' ⟨rfl, ⟨nd, rfl⟩⟩))
     go_meet
     case rel => exact ⟨_, (!t129), (by first | rfl | (simp; done) | (simp [*]; done) | (simp [wrap64]; done)), H', ⟨by first | omega | exact Nat.le_refl _⟩, ⟨by (with_reducible repeat (first | refine blk_drewN ?_ _ | refine blk_drew ?_ | refine blk_alloc ?_ _)); exact BK127.out⟩, ⟨bl⟩⟩
    ·replace c10 := Bool.eq_false_iff.mpr c10
     subst c10
     have H1 : (dec_Make.j0 k a0 a2 a3 (a1 ++ a2) true) = some (r1, r2, r3, r4, r5) := by rw [if_neg (show ¬ (false = true) by decide)] at H; exact H
     clear H
     have H := H1
     clear H1
     have H' := Aside0.mk H
     clear H
     go_wp2_with (first | (go_at_call 54; (try (rename_i hK_; simp only [List.append] at hK_)); (with_reducible refine (dec_digits.calls (a1 ++ a2) false _ A9.out).mono ?_); rintro e w13 ⟨rfl, hb⟩; have n0_ := Aside0.mk (blk_below (g := gb127) (o := .cells #[.int .i64 0, .bool false, .string (⟨#[]⟩ : ByteArray), .string (⟨#[]⟩ : ByteArray)] 40 (0, 0)) bk hb); have n1_ := Aside0.mk (below_step bl hb); clear BK127; clear HB; have BK127 := n0_; have HB := n1_; clear n0_ n1_; (try clear hb); (try clear hb2); (try clear hk); (try clear hi)))
     go_meet
     case rel => exact ⟨_, (true), (by first | rfl | (simp; done) | (simp [*]; done) | (simp [wrap64]; done)), H', ⟨by first | omega | exact Nat.le_refl _⟩, ⟨by (with_reducible repeat (first | refine blk_drewN ?_ _ | refine blk_drew ?_ | refine blk_alloc ?_ _)); exact BK127.out⟩, ⟨bl⟩⟩
  case rest =>
   clear HC6
   try clear c1; try clear c2; try clear p2; try clear c5; try clear c5b0; try clear c5b1; try clear c5b2; try clear c8; try clear c8b0; try clear c8b1; try clear c10
   obtain ⟨kq, x26_5, rfl, HA, HJ5, BK127, HB⟩ := hcut
   cases kq with
   | zero => exact absurd HA.out (by simp [dec_Make.j0])
   | succ kj5 =>
    have H := HA.out
    clear HA
    simp only [dec_Make.j0] at H
    by_cases c14 : x26_5 = true
    ·subst c14
     have H1 : (some (0, false, (⟨#[]⟩ : ByteArray), (⟨#[]⟩ : ByteArray), false)) = some (r1, r2, r3, r4, r5) := by rw [if_pos rfl] at H; exact H
     clear H
     have H := H1
     clear H1
     simp only [Option.some.injEq, Prod.mk.injEq] at H
     obtain ⟨rfl, rfl, rfl, rfl, rfl⟩ := H
     have hcz15_0 : wc.cell? ⟨gb127, 0, none⟩ = some (.int .i64 0) := (blk_cell BK127.out 0).trans rfl
     have hcz15_1 : wc.cell? ⟨gb127, 1, none⟩ = some (.bool false) := (blk_cell BK127.out 1).trans rfl
     have hcz15_2 : wc.cell? ⟨gb127, 2, none⟩ = some (.string (⟨#[]⟩ : ByteArray)) := (blk_cell BK127.out 2).trans rfl
     have hcz15_3 : wc.cell? ⟨gb127, 3, none⟩ = some (.string (⟨#[]⟩ : ByteArray)) := (blk_cell BK127.out 3).trans rfl
     have hfz15_0 := blk_frozen BK127.out 0
     have hfz15_1 := blk_frozen BK127.out 1
     have hfz15_2 := blk_frozen BK127.out 2
     have hfz15_3 := blk_frozen BK127.out 3
     go_wp2
     refine bodyPost_ret (results_ct rfl _ _ gb127 40 #[.int .i64 0, .bool false, .string (⟨#[]⟩ : ByteArray), .string (⟨#[]⟩ : ByteArray)] (0, 0) _ rfl bk Tryd.underlying40 rfl (by kernel_rfl)) rfl ?_
     exact ⟨by first | rfl | (simp [errW_none, errW_some] <;> rfl) | (simp [*, errW_none, errW_some] <;> rfl) | ((generalize ByteArray.toList _ = z_); cases z_ <;> first | rfl | (simp; done)), bl⟩
    ·replace c14 := Bool.eq_false_iff.mpr c14
     subst c14
     have H1 : ((strings_TrimRight.f (a1 ++ a2) (⟨#[48]⟩ : ByteArray)).bind fun t130 => ((big_Add.f kj5 a3 (wrap64 ((wrap64 (((a1 ++ a2).size : Int) - (t130.size : Int))) - (a2.size : Int)))).bind fun t131 => ((strings_TrimLeft.f t130 (⟨#[48]⟩ : ByteArray)).bind fun t132 => (if t132.toList = ([] : List UInt8) then ((dec_nought.f a0).bind fun bt133 => (some (bt133.1, bt133.2.1, bt133.2.2.1, bt133.2.2.2, true))) else (some (0, a0, t132, t131, true)))))) = some (r1, r2, r3, r4, r5) := by rw [if_neg (show ¬ (false = true) by decide)] at H; exact H
     clear H
     have H := H1
     clear H1
     replace H := Option.bind_eq_some_iff.mp H
     obtain ⟨t130, A160, H⟩ := H
     replace H : ((big_Add.f kj5 a3 (wrap64 ((wrap64 (((a1 ++ a2).size : Int) - (t130.size : Int))) - (a2.size : Int)))).bind fun t131 => ((strings_TrimLeft.f t130 (⟨#[48]⟩ : ByteArray)).bind fun t132 => (if t132.toList = ([] : List UInt8) then ((dec_nought.f a0).bind fun bt133 => (some (bt133.1, bt133.2.1, bt133.2.2.1, bt133.2.2.2, true))) else (some (0, a0, t132, t131, true))))) = some (r1, r2, r3, r4, r5) := H
     have A16 := Aside0.mk A160
     clear A160
     replace H := Option.bind_eq_some_iff.mp H
     obtain ⟨t131, A170, H⟩ := H
     replace H : ((strings_TrimLeft.f t130 (⟨#[48]⟩ : ByteArray)).bind fun t132 => (if t132.toList = ([] : List UInt8) then ((dec_nought.f a0).bind fun bt133 => (some (bt133.1, bt133.2.1, bt133.2.2.1, bt133.2.2.2, true))) else (some (0, a0, t132, t131, true)))) = some (r1, r2, r3, r4, r5) := H
     have A17 := Aside0.mk A170
     try (have A17z := Aside0.mk A17.out; rw [show wrap64 (((a1.size : Int) + (a2.size : Int)) - (t130.size : Int)) = ((a1.size : Int) + (a2.size : Int)) - (t130.size : Int) from by first | omega | (unfold wrap64; omega) | ((try have hc5_ := c5; try simp only [ByteArray.size_append] at hc5_); unfold wrap64; omega)] at A17z; rw [show wrap64 (((((a1.size : Int) + (a2.size : Int)) - (t130.size : Int))) - (a2.size : Int)) = ((((a1.size : Int) + (a2.size : Int)) - (t130.size : Int))) - (a2.size : Int) from by first | omega | (unfold wrap64; omega) | ((try have hc5_ := c5; try simp only [ByteArray.size_append] at hc5_); unfold wrap64; omega)] at A17z)
     (try simp only [ByteArray.size_append, Int.natCast_add] at A17)
     clear A170
     replace H := Option.bind_eq_some_iff.mp H
     obtain ⟨t132, A180, H⟩ := H
     replace H : (if t132.toList = ([] : List UInt8) then ((dec_nought.f a0).bind fun bt133 => (some (bt133.1, bt133.2.1, bt133.2.2.1, bt133.2.2.2, true))) else (some (0, a0, t132, t131, true))) = some (r1, r2, r3, r4, r5) := H
     have A18 := Aside0.mk A180
     clear A180
     by_cases c19 : t132.toList = ([] : List UInt8)
     ·rw [if_pos c19] at H
      have c19b0 : (t132.toList == ([] : List UInt8)) = true := beq_iff_eq.mpr c19
      have c19b1 : (t132.toList != ([] : List UInt8)) = false := bne_eq_false_iff_eq.mpr c19
      clear c19
      replace H := Option.bind_eq_some_iff.mp H
      obtain ⟨⟨t133, t134, t135, t136⟩, A200, H⟩ := H
      replace H : (some (t133, t134, t135, t136, true)) = some (r1, r2, r3, r4, r5) := H
      have A20 := Aside0.mk A200
      clear A200
      simp only [Option.some.injEq, Prod.mk.injEq] at H
      obtain ⟨rfl, rfl, rfl, rfl, rfl⟩ := H
      go_wp2_with (first | ((with_reducible refine gate_callee (f := 55) rfl ?_); refine goesL_ (some 29) rfl rfl Tryd.func55 (by kernel_rfl) rfl #[.string (a1 ++ a2), .string (⟨#[48]⟩ : ByteArray)] rfl (by (try simp only [List.map_toArray, List.map_cons, List.map_nil]); first | done | rfl | (simp only [List.length_drop, List.length_take]; rfl)) ?_; (with_reducible refine (strings_TrimRight.calls (a1 ++ a2) (⟨#[48]⟩ : ByteArray) t130 _ A16.out).mono ?_); rintro e w21 ⟨rfl, hb⟩; refine ⟨_, rfl, ?_⟩; have n0_ := Aside0.mk (blk_below (g := gb127) (o := .cells #[.int .i64 0, .bool false, .string (⟨#[]⟩ : ByteArray), .string (⟨#[]⟩ : ByteArray)] 40 (0, 0)) bk hb); have n1_ := Aside0.mk (below_step bl hb); clear BK127; clear HB; have BK127 := n0_; have HB := n1_; clear n0_ n1_; (try clear hb); (try clear hb2); (try clear hk); (try clear hi)) | ((with_reducible refine gate_callee (f := 23) rfl ?_); refine goesL_ (some 39) rfl rfl Tryd.func23 (by kernel_rfl) rfl #[.string a3, .int .i64 (wrap64 ((wrap64 (((a1.size : Int) + (a2.size : Int)) - (t130.size : Int))) - (a2.size : Int)))] rfl (by (try simp only [List.map_toArray, List.map_cons, List.map_nil]); first | done | rfl | (simp only [List.length_drop, List.length_take]; rfl)) ?_; (with_reducible refine (big_Add.calls kj5 a3 (wrap64 ((wrap64 (((a1.size : Int) + (a2.size : Int)) - (t130.size : Int))) - (a2.size : Int))) t131 _ ?side1 A17.out).mono ?_); (case side1 => exact Go.Proofs.YtddaggnomcoejaaDoor.PDT.Tabs_below HG.out bl); rintro e w22 ⟨rfl, hb⟩; refine ⟨_, rfl, ?_⟩; have n0_ := Aside0.mk (blk_below (g := gb127) (o := .cells #[.int .i64 0, .bool false, .string (⟨#[]⟩ : ByteArray), .string (⟨#[]⟩ : ByteArray)] 40 (0, 0)) bk hb); have n1_ := Aside0.mk (below_step bl hb); clear BK127; clear HB; have BK127 := n0_; have HB := n1_; clear n0_ n1_; (try clear hb); (try clear hb2); (try clear hk); (try clear hi)) | ((with_reducible refine gate_callee (f := 23) rfl ?_); refine goesL_ (some 39) rfl rfl Tryd.func23 (by kernel_rfl) rfl #[.string a3, .int .i64 ((((((a1.size : Int) + (a2.size : Int)) - (t130.size : Int))) - (a2.size : Int)))] rfl (by (try simp only [List.map_toArray, List.map_cons, List.map_nil]); first | done | rfl | (simp only [List.length_drop, List.length_take]; rfl)) ?_; (with_reducible refine (big_Add.calls kj5 a3 ((((((a1.size : Int) + (a2.size : Int)) - (t130.size : Int))) - (a2.size : Int))) t131 _ ?side1 A17z.out).mono ?_); (case side1 => exact Go.Proofs.YtddaggnomcoejaaDoor.PDT.Tabs_below HG.out bl); rintro e w22 ⟨rfl, hb⟩; refine ⟨_, rfl, ?_⟩; have n0_ := Aside0.mk (blk_below (g := gb127) (o := .cells #[.int .i64 0, .bool false, .string (⟨#[]⟩ : ByteArray), .string (⟨#[]⟩ : ByteArray)] 40 (0, 0)) bk hb); have n1_ := Aside0.mk (below_step bl hb); clear BK127; clear HB; have BK127 := n0_; have HB := n1_; clear n0_ n1_; (try clear hb); (try clear hb2); (try clear hk); (try clear hi)) | ((with_reducible refine gate_callee (f := 41) rfl ?_); refine goesL_ (some 41) rfl rfl Tryd.func41 (by kernel_rfl) rfl #[.string t130, .string (⟨#[48]⟩ : ByteArray)] rfl (by (try simp only [List.map_toArray, List.map_cons, List.map_nil]); first | done | rfl | (simp only [List.length_drop, List.length_take]; rfl)) ?_; (with_reducible refine (strings_TrimLeft.calls t130 (⟨#[48]⟩ : ByteArray) t132 _ A18.out).mono ?_); rintro e w23 ⟨rfl, hb⟩; refine ⟨_, rfl, ?_⟩; have n0_ := Aside0.mk (blk_below (g := gb127) (o := .cells #[.int .i64 0, .bool false, .string (⟨#[]⟩ : ByteArray), .string (⟨#[]⟩ : ByteArray)] 40 (0, 0)) bk hb); have n1_ := Aside0.mk (below_step bl hb); clear BK127; clear HB; have BK127 := n0_; have HB := n1_; clear n0_ n1_; (try clear hb); (try clear hb2); (try clear hk); (try clear hi)) | ((with_reducible refine gate_callee (f := 56) rfl ?_); refine goesL_ (some 45) rfl rfl Tryd.func56 (by kernel_rfl) rfl #[.bool a0] rfl (by (try simp only [List.map_toArray, List.map_cons, List.map_nil]); first | done | rfl | (simp only [List.length_drop, List.length_take]; rfl)) ?_; (with_reducible refine (dec_nought.calls a0 t133 t134 t135 t136 _ A20.out).mono ?_); rintro e w24 ⟨rfl, hb⟩; refine ⟨_, rfl, ?_⟩; have n0_ := Aside0.mk (blk_below (g := gb127) (o := .cells #[.int .i64 0, .bool false, .string (⟨#[]⟩ : ByteArray), .string (⟨#[]⟩ : ByteArray)] 40 (0, 0)) bk hb); have n1_ := Aside0.mk (below_step bl hb); clear BK127; clear HB; have BK127 := n0_; have HB := n1_; clear n0_ n1_; (try clear hb); (try clear hb2); (try clear hk); (try clear hi); have hcz25_0 : w24.cell? ⟨gb127, 0, none⟩ = some (.int .i64 0) := (blk_cell BK127.out 0).trans rfl; have hcz25_1 : w24.cell? ⟨gb127, 1, none⟩ = some (.bool false) := (blk_cell BK127.out 1).trans rfl; have hcz25_2 : w24.cell? ⟨gb127, 2, none⟩ = some (.string (⟨#[]⟩ : ByteArray)) := (blk_cell BK127.out 2).trans rfl; have hcz25_3 : w24.cell? ⟨gb127, 3, none⟩ = some (.string (⟨#[]⟩ : ByteArray)) := (blk_cell BK127.out 3).trans rfl; have hfz25_0 := blk_frozen BK127.out 0; have hfz25_1 := blk_frozen BK127.out 1; have hfz25_2 := blk_frozen BK127.out 2; have hfz25_3 := blk_frozen BK127.out 3))
      refine bodyPost_ret (results_ct rfl _ _ gb127 40 #[.int .i64 t133, .bool t134, .string t135, .string t136] (0, 0) _ rfl bk Tryd.underlying40 rfl (by kernel_rfl)) rfl ?_
      exact ⟨by first | rfl | (simp [errW_none, errW_some] <;> rfl) | (simp [*, errW_none, errW_some] <;> rfl) | ((generalize ByteArray.toList _ = z_); cases z_ <;> first | rfl | (simp; done)), bl⟩
     ·rw [if_neg c19] at H
      have c19b0 : (t132.toList == ([] : List UInt8)) = false := beq_eq_false_iff_ne.mpr c19
      have c19b1 : (t132.toList != ([] : List UInt8)) = true := bne_iff_ne.mpr c19
      simp only [Option.some.injEq, Prod.mk.injEq] at H
      obtain ⟨rfl, rfl, rfl, rfl, rfl⟩ := H
      go_wp2_with (first | ((with_reducible refine gate_callee (f := 55) rfl ?_); refine goesL_ (some 29) rfl rfl Tryd.func55 (by kernel_rfl) rfl #[.string (a1 ++ a2), .string (⟨#[48]⟩ : ByteArray)] rfl (by (try simp only [List.map_toArray, List.map_cons, List.map_nil]); first | done | rfl | (simp only [List.length_drop, List.length_take]; rfl)) ?_; (with_reducible refine (strings_TrimRight.calls (a1 ++ a2) (⟨#[48]⟩ : ByteArray) t130 _ A16.out).mono ?_); rintro e w26 ⟨rfl, hb⟩; refine ⟨_, rfl, ?_⟩; have n0_ := Aside0.mk (blk_below (g := gb127) (o := .cells #[.int .i64 0, .bool false, .string (⟨#[]⟩ : ByteArray), .string (⟨#[]⟩ : ByteArray)] 40 (0, 0)) bk hb); have n1_ := Aside0.mk (below_step bl hb); clear BK127; clear HB; have BK127 := n0_; have HB := n1_; clear n0_ n1_; (try clear hb); (try clear hb2); (try clear hk); (try clear hi)) | ((with_reducible refine gate_callee (f := 23) rfl ?_); refine goesL_ (some 39) rfl rfl Tryd.func23 (by kernel_rfl) rfl #[.string a3, .int .i64 (wrap64 ((wrap64 (((a1.size : Int) + (a2.size : Int)) - (t130.size : Int))) - (a2.size : Int)))] rfl (by (try simp only [List.map_toArray, List.map_cons, List.map_nil]); first | done | rfl | (simp only [List.length_drop, List.length_take]; rfl)) ?_; (with_reducible refine (big_Add.calls kj5 a3 (wrap64 ((wrap64 (((a1.size : Int) + (a2.size : Int)) - (t130.size : Int))) - (a2.size : Int))) t131 _ ?side1 A17.out).mono ?_); (case side1 => exact Go.Proofs.YtddaggnomcoejaaDoor.PDT.Tabs_below HG.out bl); rintro e w27 ⟨rfl, hb⟩; refine ⟨_, rfl, ?_⟩; have n0_ := Aside0.mk (blk_below (g := gb127) (o := .cells #[.int .i64 0, .bool false, .string (⟨#[]⟩ : ByteArray), .string (⟨#[]⟩ : ByteArray)] 40 (0, 0)) bk hb); have n1_ := Aside0.mk (below_step bl hb); clear BK127; clear HB; have BK127 := n0_; have HB := n1_; clear n0_ n1_; (try clear hb); (try clear hb2); (try clear hk); (try clear hi)) | ((with_reducible refine gate_callee (f := 23) rfl ?_); refine goesL_ (some 39) rfl rfl Tryd.func23 (by kernel_rfl) rfl #[.string a3, .int .i64 ((((((a1.size : Int) + (a2.size : Int)) - (t130.size : Int))) - (a2.size : Int)))] rfl (by (try simp only [List.map_toArray, List.map_cons, List.map_nil]); first | done | rfl | (simp only [List.length_drop, List.length_take]; rfl)) ?_; (with_reducible refine (big_Add.calls kj5 a3 ((((((a1.size : Int) + (a2.size : Int)) - (t130.size : Int))) - (a2.size : Int))) t131 _ ?side1 A17z.out).mono ?_); (case side1 => exact Go.Proofs.YtddaggnomcoejaaDoor.PDT.Tabs_below HG.out bl); rintro e w27 ⟨rfl, hb⟩; refine ⟨_, rfl, ?_⟩; have n0_ := Aside0.mk (blk_below (g := gb127) (o := .cells #[.int .i64 0, .bool false, .string (⟨#[]⟩ : ByteArray), .string (⟨#[]⟩ : ByteArray)] 40 (0, 0)) bk hb); have n1_ := Aside0.mk (below_step bl hb); clear BK127; clear HB; have BK127 := n0_; have HB := n1_; clear n0_ n1_; (try clear hb); (try clear hb2); (try clear hk); (try clear hi)) | ((with_reducible refine gate_callee (f := 41) rfl ?_); refine goesL_ (some 41) rfl rfl Tryd.func41 (by kernel_rfl) rfl #[.string t130, .string (⟨#[48]⟩ : ByteArray)] rfl (by (try simp only [List.map_toArray, List.map_cons, List.map_nil]); first | done | rfl | (simp only [List.length_drop, List.length_take]; rfl)) ?_; (with_reducible refine (strings_TrimLeft.calls t130 (⟨#[48]⟩ : ByteArray) t132 _ A18.out).mono ?_); rintro e w28 ⟨rfl, hb⟩; refine ⟨_, rfl, ?_⟩; have n0_ := Aside0.mk (blk_below (g := gb127) (o := .cells #[.int .i64 0, .bool false, .string (⟨#[]⟩ : ByteArray), .string (⟨#[]⟩ : ByteArray)] 40 (0, 0)) bk hb); have n1_ := Aside0.mk (below_step bl hb); clear BK127; clear HB; have BK127 := n0_; have HB := n1_; clear n0_ n1_; (try clear hb); (try clear hb2); (try clear hk); (try clear hi); have hcz29_0 : w28.cell? ⟨gb127, 0, none⟩ = some (.int .i64 0) := (blk_cell BK127.out 0).trans rfl; have hcz29_1 : w28.cell? ⟨gb127, 1, none⟩ = some (.bool false) := (blk_cell BK127.out 1).trans rfl; have hcz29_2 : w28.cell? ⟨gb127, 2, none⟩ = some (.string (⟨#[]⟩ : ByteArray)) := (blk_cell BK127.out 2).trans rfl; have hcz29_3 : w28.cell? ⟨gb127, 3, none⟩ = some (.string (⟨#[]⟩ : ByteArray)) := (blk_cell BK127.out 3).trans rfl; have hfz29_0 := blk_frozen BK127.out 0; have hfz29_1 := blk_frozen BK127.out 1; have hfz29_2 := blk_frozen BK127.out 2; have hfz29_3 := blk_frozen BK127.out 3))
      refine bodyPost_ret (results_ct rfl _ _ gb127 40 #[.int .i64 0, .bool a0, .string t132, .string t131] (0, 0) _ rfl bk Tryd.underlying40 rfl (by kernel_rfl)) rfl ?_
      exact ⟨by first | rfl | (simp [errW_none, errW_some] <;> rfl) | (simp [*, errW_none, errW_some] <;> rfl) | ((generalize ByteArray.toList _ = z_); cases z_ <;> first | rfl | (simp; done)), bl⟩
 ·rw [if_neg c5] at H
  exact absurd H (by simp)

/-! ### dec_Good: function 33 -/
def dec_Good.j0 : Nat → Bool → Int → Bool → ByteArray → ByteArray → Option (Bool)
 | 0, _, _, _, _, _ => none
 | k + 1, x5, x138000, x138001, x138002, x138003 => if x5 = true then (some true) else (if x138000 = 0 then (if (x138002.size : Int) > 0 then ((dec_digits.f x138002).bind fun t142 => (if t142 = true then (if 0 < (x138002.size : Int) then (if (bt x138002 0) = 48 then (some false) else (if 0 ≤ (wrap64 ((x138002.size : Int) - 1)) then (if (wrap64 ((x138002.size : Int) - 1)) < (x138002.size : Int) then (if (bt x138002 (wrap64 ((x138002.size : Int) - 1))) = 48 then (some false) else ((big_Good.f k x138003).bind fun t143 => (some t143))) else (none)) else (none))) else (none)) else (some false))) else (some false)) else (some false))
def dec_Good.f (k : Nat) (a0_0 : Int) (a0_1 : Bool) (a0_2 : ByteArray) (a0_3 : ByteArray) : Option (Bool) := (dec_nought.f a0_1).bind fun bt138 => (if (a0_0 == bt138.1 && (a0_1 == bt138.2.1 && (a0_2.toList == bt138.2.2.1.toList && (a0_3.toList == bt138.2.2.2.toList)))) = true then (dec_Good.j0 k (a0_0 == bt138.1 && (a0_1 == bt138.2.1 && (a0_2.toList == bt138.2.2.1.toList && (a0_3.toList == bt138.2.2.2.toList)))) a0_0 a0_1 a0_2 a0_3) else (if (a0_0 == 1 && (a0_2.toList == ([] : List UInt8) && (a0_3.toList == ([] : List UInt8)))) = true then (dec_Good.j0 k (a0_0 == 1 && (a0_2.toList == ([] : List UInt8) && (a0_3.toList == ([] : List UInt8)))) a0_0 a0_1 a0_2 a0_3) else (dec_Good.j0 k (a0_0 == 2 && (!a0_1 && (a0_2.toList == ([] : List UInt8) && (a0_3.toList == ([] : List UInt8))))) a0_0 a0_1 a0_2 a0_3)))
theorem dec_Good.mono_l : ∀ k, (∀ y0 y1 y2 y3 y4, LeO (dec_Good.j0 k y0 y1 y2 y3 y4) (dec_Good.j0 (k + 1) y0 y1 y2 y3 y4))
 | 0 => fun _ _ _ _ _ r h => by simp [dec_Good.j0] at h
 | k + 1 => by
  have ih0 := dec_Good.mono_l k
  ·intro y0 y1 y2 y3 y4
   unfold dec_Good.j0
   repeat' first
   | (with_reducible exact ih0 _ _ _ _ _)
   | (with_reducible exact big_Good.mono _ _)
   | (with_reducible exact LeO.refl _)
   | (with_reducible exact LeO.none _)
   | (with_reducible refine LeO.ite ?_ ?_)
   | (with_reducible refine LeO.bind ?_ (fun _ => ?_))
   | exact ih0 _ _ _ _ _
   | exact big_Good.mono _ _
   | exact LeO.none _
   | refine LeO.ite ?_ ?_
   | refine LeO.bind ?_ (fun _ => ?_)
theorem dec_Good.mono : ∀ a0 a1 a2 a3 k, LeO (dec_Good.f k a0 a1 a2 a3) (dec_Good.f (k + 1) a0 a1 a2 a3) := by
 intro a0 a1 a2 a3 k
 have ih0 := dec_Good.mono_l k
 unfold dec_Good.f
 repeat' first
   | (with_reducible exact ih0 _ _ _ _ _)
   | (with_reducible exact big_Good.mono _ _)
   | (with_reducible exact LeO.refl _)
   | (with_reducible exact LeO.none _)
   | (with_reducible refine LeO.ite ?_ ?_)
   | (with_reducible refine LeO.bind ?_ (fun _ => ?_))
   | exact ih0 _ _ _ _ _
   | exact big_Good.mono _ _
   | exact LeO.none _
   | refine LeO.ite ?_ ?_
   | refine LeO.bind ?_ (fun _ => ?_)
set_option maxHeartbeats 40000000 in
set_option maxRecDepth 100000 in
theorem dec_Good.calls (k : Nat) (a0_0 : Int) (a0_1 : Bool) (a0_2 : ByteArray) (a0_3 : ByteArray) (r : Bool) (w : World) (h : dec_Good.f k a0_0 a0_1 a0_2 a0_3 = some r) :
  Calls Tryd.prog 33 #[.agg #[.int .i64 a0_0, .bool a0_1, .string a0_2, .string a0_3]] w fun e w' => e = .returned (.bool r) ∧ Below w.heap.size w w' := by
 have hu40 := Tryd.underlying40
 have HB := Aside0.mk (Below.refl w.heap.size w)
 have H : ((dec_nought.f a0_1).bind fun bt138 => (if (a0_0 == bt138.1 && (a0_1 == bt138.2.1 && (a0_2.toList == bt138.2.2.1.toList && (a0_3.toList == bt138.2.2.2.toList)))) = true then (dec_Good.j0 k (a0_0 == bt138.1 && (a0_1 == bt138.2.1 && (a0_2.toList == bt138.2.2.1.toList && (a0_3.toList == bt138.2.2.2.toList)))) a0_0 a0_1 a0_2 a0_3) else (if (a0_0 == 1 && (a0_2.toList == ([] : List UInt8) && (a0_3.toList == ([] : List UInt8)))) = true then (dec_Good.j0 k (a0_0 == 1 && (a0_2.toList == ([] : List UInt8) && (a0_3.toList == ([] : List UInt8)))) a0_0 a0_1 a0_2 a0_3) else (dec_Good.j0 k (a0_0 == 2 && (!a0_1 && (a0_2.toList == ([] : List UInt8) && (a0_3.toList == ([] : List UInt8))))) a0_0 a0_1 a0_2 a0_3)))) = some r := h
 clear h
 replace H := Option.bind_eq_some_iff.mp H
 obtain ⟨⟨t138, t139, t140, t141⟩, A20, H⟩ := H
 replace H : (if (a0_0 == t138 && (a0_1 == t139 && (a0_2.toList == t140.toList && (a0_3.toList == t141.toList)))) = true then (dec_Good.j0 k (a0_0 == t138 && (a0_1 == t139 && (a0_2.toList == t140.toList && (a0_3.toList == t141.toList)))) a0_0 a0_1 a0_2 a0_3) else (if (a0_0 == 1 && (a0_2.toList == ([] : List UInt8) && (a0_3.toList == ([] : List UInt8)))) = true then (dec_Good.j0 k (a0_0 == 1 && (a0_2.toList == ([] : List UInt8) && (a0_3.toList == ([] : List UInt8)))) a0_0 a0_1 a0_2 a0_3) else (dec_Good.j0 k (a0_0 == 2 && (!a0_1 && (a0_2.toList == ([] : List UInt8) && (a0_3.toList == ([] : List UInt8))))) a0_0 a0_1 a0_2 a0_3))) = some r := H
 have A2 := Aside0.mk A20
 clear A20
 have HC3 := Aside0.mk H
 clear H
 go_enter Tryd.func33, Tryd.ntmps33
 go_upto_if 5 with (first | ((with_reducible refine gate_dst (N := 1) rfl ?_); refine box_event ?hg (N := 1) ?hd (cs := #[.int .i64 a0_0, .bool a0_1, .string a0_2, .string a0_3]) (t := 40) ?hr ?_; (case hd => rfl); (case hg => rfl); (case hr => first | (go_simp; done) | (go_simp; rfl)); intro gb137 hg w4 hbox hb; have n0_ := Aside0.mk (below_step bl hb); have n1_ := Aside0.mk (hbox); have n2_ := Aside0.mk ((by rw [hg]; exact (below_size bl) : w.heap.size ≤ gb137)); have n3_ := Aside0.mk ((by rw [hg]; exact (below_size bl) : w.heap.size ≤ gb137)); clear HB; have HB := n0_; have BK137 := n1_; have GW137 := n2_; have GE137 := n3_; clear n0_ n1_ n2_ n3_; clear hb hbox hg; have hcz5_0 : w4.cell? ⟨gb137, 0, none⟩ = some (.int .i64 a0_0) := (blk_cell BK137.out 0).trans rfl; have hcz5_1 : w4.cell? ⟨gb137, 1, none⟩ = some (.bool a0_1) := (blk_cell BK137.out 1).trans rfl; have hcz5_2 : w4.cell? ⟨gb137, 2, none⟩ = some (.string a0_2) := (blk_cell BK137.out 2).trans rfl; have hcz5_3 : w4.cell? ⟨gb137, 3, none⟩ = some (.string a0_3) := (blk_cell BK137.out 3).trans rfl; have hfz5_0 := blk_frozen BK137.out 0; have hfz5_1 := blk_frozen BK137.out 1; have hfz5_2 := blk_frozen BK137.out 2; have hfz5_3 := blk_frozen BK137.out 3) | ((with_reducible refine gate_callee (f := 56) rfl ?_); refine goesL_ (some 8) rfl rfl Tryd.func56 (by kernel_rfl) rfl #[.bool a0_1] rfl (by (try simp only [List.map_toArray, List.map_cons, List.map_nil]); first | done | rfl | (simp only [List.length_drop, List.length_take]; rfl)) ?_; (with_reducible refine (dec_nought.calls a0_1 t138 t139 t140 t141 _ A2.out).mono ?_); rintro e w6 ⟨rfl, hb⟩; refine ⟨_, rfl, ?_⟩; have n0_ := Aside0.mk (blk_below (g := gb137) (o := .cells #[.int .i64 a0_0, .bool a0_1, .string a0_2, .string a0_3] 40 (0, 0)) bk hb); have n1_ := Aside0.mk (below_step bl hb); clear BK137; clear HB; have BK137 := n0_; have HB := n1_; clear n0_ n1_; (try clear hb); (try clear hb2); (try clear hk); (try clear hi)))
 (try simp only [Act.put, List.setIfInBounds_toArray, List.set_cons_zero, List.set_cons_succ])
 go_cut [5] (fun v5 wc => ∃ (kq : Nat) (x5_2 : Bool), v5 = .bool x5_2 ∧ Aside0 (dec_Good.j0 kq x5_2 a0_0 a0_1 a0_2 a0_3 = some r) ∧ Aside0 (kq ≤ k) ∧ Aside0 (wc.heap[gb137]? = some (.cells #[.int .i64 a0_0, .bool a0_1, .string a0_2, .string a0_3] 40 (0, 0))) ∧ Aside0 (Below w.heap.size w wc))
 case first =>
  have H := HC3.out
  clear HC3
  by_cases c7 : (a0_0 == t138 && (a0_1 == t139 && (a0_2.toList == t140.toList && (a0_3.toList == t141.toList)))) = true
  ·rw [if_pos c7] at H
   have c7b0 : (a0_0 == t138 && (a0_1 == t139 && (a0_2.toList == t140.toList && (a0_3.toList == t141.toList)))) = true := c7
   (try (have c7b1 : decide (a0_0 = t138 && (a0_1 == t139 && (a0_2.toList == t140.toList && (a0_3.toList == t141.toList)))) = true := by simpa using c7))
   (try (have c7b2 : (a0_0 == t138 && (a0_1 == t139 && (a0_2.toList == t140.toList && (a0_3.toList == t141.toList)))) = true := by simpa using c7))
   clear c7
   (first | rw [c7b0] | (simp only [i64_w, i32_w]; rw [c7b0]) | skip)
   have H' := Aside0.mk H
   clear H
   go_wp2
   go_meet
   case rel => exact ⟨_, ((a0_0 == t138 && (a0_1 == t139 && (a0_2.toList == t140.toList && (a0_3.toList == t141.toList))))), (by first | rfl | (simp; done) | (simp [*]; done) | (simp [wrap64]; done)), H', ⟨by first | omega | exact Nat.le_refl _⟩, ⟨by (with_reducible repeat (first | refine blk_drewN ?_ _ | refine blk_drew ?_ | refine blk_alloc ?_ _)); exact BK137.out⟩, ⟨bl⟩⟩
  ·rw [if_neg c7] at H
   have c7b0 : (a0_0 == t138 && (a0_1 == t139 && (a0_2.toList == t140.toList && (a0_3.toList == t141.toList)))) = false := by simpa using c7
   (try (have c7b1 : decide (a0_0 = t138 && (a0_1 == t139 && (a0_2.toList == t140.toList && (a0_3.toList == t141.toList)))) = false := by simpa using c7))
   (try (have c7b2 : (a0_0 == t138 && (a0_1 == t139 && (a0_2.toList == t140.toList && (a0_3.toList == t141.toList)))) = false := by simpa using c7))
   (try (have c7b3 : ¬ (a0_0 = t138 && (a0_1 == t139 && (a0_2.toList == t140.toList && (a0_3.toList == t141.toList)))) := by simpa using c7))
   clear c7
   (first | rw [c7b0] | (simp only [i64_w, i32_w]; rw [c7b0]) | skip)
   by_cases c8 : (a0_0 == 1 && (a0_2.toList == ([] : List UInt8) && (a0_3.toList == ([] : List UInt8)))) = true
   ·rw [if_pos c8] at H
    have c8b0 : (a0_0 == 1 && (a0_2.toList == ([] : List UInt8) && (a0_3.toList == ([] : List UInt8)))) = true := c8
    (try (have c8b4 : (a0_0 == 1 && (a0_2.toList.isEmpty && (a0_3.toList.isEmpty))) = true := by simpa using c8b0))
    (try (have c8b1 : decide (a0_0 = 1 && (a0_2.toList == ([] : List UInt8) && (a0_3.toList == ([] : List UInt8)))) = true := by simpa using c8))
    (try (have c8b2 : (a0_0 == 1 && (a0_2.toList == ([] : List UInt8) && (a0_3.toList == ([] : List UInt8)))) = true := by simpa using c8))
    clear c8
    have H' := Aside0.mk H
    clear H
    have hcz9_0 : w6.cell? ⟨gb137, 0, none⟩ = some (.int .i64 a0_0) := (blk_cell BK137.out 0).trans rfl
    have hcz9_1 : w6.cell? ⟨gb137, 1, none⟩ = some (.bool a0_1) := (blk_cell BK137.out 1).trans rfl
    have hcz9_2 : w6.cell? ⟨gb137, 2, none⟩ = some (.string a0_2) := (blk_cell BK137.out 2).trans rfl
    have hcz9_3 : w6.cell? ⟨gb137, 3, none⟩ = some (.string a0_3) := (blk_cell BK137.out 3).trans rfl
    have hfz9_0 := blk_frozen BK137.out 0
    have hfz9_1 := blk_frozen BK137.out 1
    have hfz9_2 := blk_frozen BK137.out 2
    have hfz9_3 := blk_frozen BK137.out 3
    go_wp2
    go_meet
    case rel => exact ⟨_, ((a0_0 == 1 && (a0_2.toList == ([] : List UInt8) && (a0_3.toList == ([] : List UInt8))))), (by first | rfl | (simp; done) | (simp [*]; done) | (simp [wrap64]; done)), H', ⟨by first | omega | exact Nat.le_refl _⟩, ⟨by (with_reducible repeat (first | refine blk_drewN ?_ _ | refine blk_drew ?_ | refine blk_alloc ?_ _)); exact BK137.out⟩, ⟨bl⟩⟩
   ·rw [if_neg c8] at H
    have c8b0 : (a0_0 == 1 && (a0_2.toList == ([] : List UInt8) && (a0_3.toList == ([] : List UInt8)))) = false := by simpa using c8
    (try (have c8b4 : (a0_0 == 1 && (a0_2.toList.isEmpty && (a0_3.toList.isEmpty))) = false := by simpa using c8b0))
    (try (have c8b1 : decide (a0_0 = 1 && (a0_2.toList == ([] : List UInt8) && (a0_3.toList == ([] : List UInt8)))) = false := by simpa using c8))
    (try (have c8b2 : (a0_0 == 1 && (a0_2.toList == ([] : List UInt8) && (a0_3.toList == ([] : List UInt8)))) = false := by simpa using c8))
    (try (have c8b3 : ¬ (a0_0 = 1 && (a0_2.toList == ([] : List UInt8) && (a0_3.toList == ([] : List UInt8)))) := by simpa using c8))
    clear c8
    have H' := Aside0.mk H
    clear H
    have hcz10_0 : w6.cell? ⟨gb137, 0, none⟩ = some (.int .i64 a0_0) := (blk_cell BK137.out 0).trans rfl
    have hcz10_1 : w6.cell? ⟨gb137, 1, none⟩ = some (.bool a0_1) := (blk_cell BK137.out 1).trans rfl
    have hcz10_2 : w6.cell? ⟨gb137, 2, none⟩ = some (.string a0_2) := (blk_cell BK137.out 2).trans rfl
    have hcz10_3 : w6.cell? ⟨gb137, 3, none⟩ = some (.string a0_3) := (blk_cell BK137.out 3).trans rfl
    have hfz10_0 := blk_frozen BK137.out 0
    have hfz10_1 := blk_frozen BK137.out 1
    have hfz10_2 := blk_frozen BK137.out 2
    have hfz10_3 := blk_frozen BK137.out 3
    go_wp2
    go_meet
    case rel => exact ⟨_, ((a0_0 == 2 && (!a0_1 && (a0_2.toList == ([] : List UInt8) && (a0_3.toList == ([] : List UInt8)))))), (by first | rfl | (simp; done) | (simp [*]; done) | (simp [wrap64]; done)), H', ⟨by first | omega | exact Nat.le_refl _⟩, ⟨by (with_reducible repeat (first | refine blk_drewN ?_ _ | refine blk_drew ?_ | refine blk_alloc ?_ _)); exact BK137.out⟩, ⟨bl⟩⟩
 case rest =>
  clear HC3
  try clear p2; try clear c3; try clear c5; try clear c7; try clear c7b0; try clear c7b1; try clear c7b2; try clear c8; try clear c8b0; try clear c8b1; try clear c8b2; try clear hcz10_0; try clear hcz10_1; try clear hcz10_2; try clear hcz10_3; try clear hcz5_0; try clear hcz5_1; try clear hcz5_2; try clear hcz5_3; try clear hcz9_0; try clear hcz9_1; try clear hcz9_2; try clear hcz9_3; try clear hfz10_0; try clear hfz10_1; try clear hfz10_2; try clear hfz10_3; try clear hfz5_0; try clear hfz5_1; try clear hfz5_2; try clear hfz5_3; try clear hfz9_0; try clear hfz9_1; try clear hfz9_2; try clear hfz9_3
  obtain ⟨kq, x5_2, rfl, HA, HJ2, BK137, HB⟩ := hcut
  cases kq with
  | zero => exact absurd HA.out (by simp [dec_Good.j0])
  | succ kj2 =>
   have H := HA.out
   clear HA
   simp only [dec_Good.j0] at H
   by_cases c11 : x5_2 = true
   ·subst c11
    have H1 : (some true) = some r := by rw [if_pos rfl] at H; exact H
    clear H
    have H := H1
    clear H1
    obtain rfl := Option.some.inj H
    go_wp2
    go_ret
    exact ⟨by first | rfl | (simp [errW_none, errW_some] <;> rfl) | (simp [*, errW_none, errW_some] <;> rfl) | ((generalize ByteArray.toList _ = z_); cases z_ <;> first | rfl | (simp; done)), bl⟩
   ·replace c11 := Bool.eq_false_iff.mpr c11
    subst c11
    have H1 : (if a0_0 = 0 then (if (a0_2.size : Int) > 0 then ((dec_digits.f a0_2).bind fun t142 => (if t142 = true then (if 0 < (a0_2.size : Int) then (if (bt a0_2 0) = 48 then (some false) else (if 0 ≤ (wrap64 ((a0_2.size : Int) - 1)) then (if (wrap64 ((a0_2.size : Int) - 1)) < (a0_2.size : Int) then (if (bt a0_2 (wrap64 ((a0_2.size : Int) - 1))) = 48 then (some false) else ((big_Good.f kj2 a0_3).bind fun t143 => (some t143))) else (none)) else (none))) else (none)) else (some false))) else (some false)) else (some false)) = some r := by rw [if_neg (show ¬ (false = true) by decide)] at H; exact H
    clear H
    have H := H1
    clear H1
    by_cases c12 : a0_0 = 0
    ·rw [if_pos c12] at H
     have c12b0 : (a0_0 == 0) = true := beq_iff_eq.mpr c12
     have c12b1 : (a0_0 != 0) = false := bne_eq_false_iff_eq.mpr c12
     clear c12
     by_cases c13 : (a0_2.size : Int) > 0
     ·rw [if_pos c13] at H
      have c13b0 : decide (0 < (a0_2.size : Int)) = true := decide_eq_true c13
      have c13b1 : decide (0 < a0_2.size) = true := decide_eq_true (by omega)
      clear c13
      replace H := Option.bind_eq_some_iff.mp H
      obtain ⟨t142, A140, H⟩ := H
      replace H : (if t142 = true then (if 0 < (a0_2.size : Int) then (if (bt a0_2 0) = 48 then (some false) else (if 0 ≤ (wrap64 ((a0_2.size : Int) - 1)) then (if (wrap64 ((a0_2.size : Int) - 1)) < (a0_2.size : Int) then (if (bt a0_2 (wrap64 ((a0_2.size : Int) - 1))) = 48 then (some false) else ((big_Good.f kj2 a0_3).bind fun t143 => (some t143))) else (none)) else (none))) else (none)) else (some false)) = some r := H
      have A14 := Aside0.mk A140
      clear A140
      by_cases c15 : t142 = true
      ·subst c15
       have H1 : (if 0 < (a0_2.size : Int) then (if (bt a0_2 0) = 48 then (some false) else (if 0 ≤ (wrap64 ((a0_2.size : Int) - 1)) then (if (wrap64 ((a0_2.size : Int) - 1)) < (a0_2.size : Int) then (if (bt a0_2 (wrap64 ((a0_2.size : Int) - 1))) = 48 then (some false) else ((big_Good.f kj2 a0_3).bind fun t143 => (some t143))) else (none)) else (none))) else (none)) = some r := by rw [if_pos rfl] at H; exact H
       clear H
       have H := H1
       clear H1
       by_cases c16 : 0 < (a0_2.size : Int)
       ·rw [if_pos c16] at H
        have c16b0 : decide (0 < (a0_2.size : Int)) = true := decide_eq_true c16
        have c16b1 : decide (0 < a0_2.size) = true := decide_eq_true (by omega)
        clear c16
        by_cases c18 : (bt a0_2 0) = 48
        ·rw [if_pos c18] at H
         have c18b0 : ((bt a0_2 0) == 48) = true := beq_iff_eq.mpr c18
         have c18b1 : ((bt a0_2 0) != 48) = false := bne_eq_false_iff_eq.mpr c18
         clear c18
         obtain rfl := Option.some.inj H
         have hcz19_0 : wc.cell? ⟨gb137, 0, none⟩ = some (.int .i64 a0_0) := (blk_cell BK137.out 0).trans rfl
         have hcz19_1 : wc.cell? ⟨gb137, 1, none⟩ = some (.bool a0_1) := (blk_cell BK137.out 1).trans rfl
         have hcz19_2 : wc.cell? ⟨gb137, 2, none⟩ = some (.string a0_2) := (blk_cell BK137.out 2).trans rfl
         have hcz19_3 : wc.cell? ⟨gb137, 3, none⟩ = some (.string a0_3) := (blk_cell BK137.out 3).trans rfl
         have hfz19_0 := blk_frozen BK137.out 0
         have hfz19_1 := blk_frozen BK137.out 1
         have hfz19_2 := blk_frozen BK137.out 2
         have hfz19_3 := blk_frozen BK137.out 3
         go_wp2_with (first | (go_at_call 54; (try (rename_i hK_; simp only [List.append] at hK_)); (with_reducible refine (dec_digits.calls a0_2 true _ A14.out).mono ?_); rintro e w20 ⟨rfl, hb⟩; have n0_ := Aside0.mk (blk_below (g := gb137) (o := .cells #[.int .i64 a0_0, .bool a0_1, .string a0_2, .string a0_3] 40 (0, 0)) bk hb); have n1_ := Aside0.mk (below_step bl hb); clear BK137; clear HB; have BK137 := n0_; have HB := n1_; clear n0_ n1_; (try clear hb); (try clear hb2); (try clear hk); (try clear hi); have hcz21_0 : w20.cell? ⟨gb137, 0, none⟩ = some (.int .i64 a0_0) := (blk_cell BK137.out 0).trans rfl; have hcz21_1 : w20.cell? ⟨gb137, 1, none⟩ = some (.bool a0_1) := (blk_cell BK137.out 1).trans rfl; have hcz21_2 : w20.cell? ⟨gb137, 2, none⟩ = some (.string a0_2) := (blk_cell BK137.out 2).trans rfl; have hcz21_3 : w20.cell? ⟨gb137, 3, none⟩ = some (.string a0_3) := (blk_cell BK137.out 3).trans rfl; have hfz21_0 := blk_frozen BK137.out 0; have hfz21_1 := blk_frozen BK137.out 1; have hfz21_2 := blk_frozen BK137.out 2; have hfz21_3 := blk_frozen BK137.out 3; have p17 : 0 ≤ (0 : Int) := (by omega); have q17 : 0 < a0_2.size := (by have : (0 : Int) < (a0_2.size : Int) := of_decide_eq_true (by first | (with_reducible assumption) | assumption); omega); have hx17 : ∀ h : 0 < a0_2.size, ((a0_2[0]'h).toNat : Int) = bt a0_2 0 := bt_at a0_2 0; clear p17; have qi17 : (0 < (a0_2.size : Int)) = True := eq_true (of_decide_eq_true (by first | (with_reducible assumption) | assumption)); replace q17 := eq_true q17))
         go_ret
         exact ⟨by first | rfl | (simp [errW_none, errW_some] <;> rfl) | (simp [*, errW_none, errW_some] <;> rfl) | ((generalize ByteArray.toList _ = z_); cases z_ <;> first | rfl | (simp; done)), bl⟩
        ·rw [if_neg c18] at H
         have c18b0 : ((bt a0_2 0) == 48) = false := beq_eq_false_iff_ne.mpr c18
         have c18b1 : ((bt a0_2 0) != 48) = true := bne_iff_ne.mpr c18
         obtain ⟨ji22, hji22⟩ : ∃ j_ : Int, (wrap64 ((a0_2.size : Int) - 1)) = j_ := ⟨_, rfl⟩
         replace H : (if 0 ≤ (ji22) then (if (ji22) < (a0_2.size : Int) then (if (bt a0_2 (ji22)) = 48 then (some false) else ((big_Good.f kj2 a0_3).bind fun t143 => (some t143))) else (none)) else (none)) = some r := by first | (rw [hji22] at H; exact H) | (simp only [hji22] at H ⊢; exact H)
         (try rw [hji22] at A14)
         have hji22w : (IntKind.i64.wrap ((a0_2.size : Int) - 1)) = ji22 := (i64_w _).trans hji22
         by_cases c23 : 0 ≤ (ji22)
         ·rw [if_pos c23] at H
          have c23b0 : decide (0 ≤ (ji22)) = true := decide_eq_true c23
          clear c23
          by_cases c24 : (ji22) < (a0_2.size : Int)
          ·rw [if_pos c24] at H
           have c24b0 : decide ((ji22) < (a0_2.size : Int)) = true := decide_eq_true c24
           clear c24
           by_cases c26 : (bt a0_2 (ji22)) = 48
           ·rw [if_pos c26] at H
            have c26b0 : ((bt a0_2 (ji22)) == 48) = true := beq_iff_eq.mpr c26
            have c26b1 : ((bt a0_2 (ji22)) != 48) = false := bne_eq_false_iff_eq.mpr c26
            clear c26
            obtain rfl := Option.some.inj H
            have hcz27_0 : wc.cell? ⟨gb137, 0, none⟩ = some (.int .i64 a0_0) := (blk_cell BK137.out 0).trans rfl
            have hcz27_1 : wc.cell? ⟨gb137, 1, none⟩ = some (.bool a0_1) := (blk_cell BK137.out 1).trans rfl
            have hcz27_2 : wc.cell? ⟨gb137, 2, none⟩ = some (.string a0_2) := (blk_cell BK137.out 2).trans rfl
            have hcz27_3 : wc.cell? ⟨gb137, 3, none⟩ = some (.string a0_3) := (blk_cell BK137.out 3).trans rfl
            have hfz27_0 := blk_frozen BK137.out 0
            have hfz27_1 := blk_frozen BK137.out 1
            have hfz27_2 := blk_frozen BK137.out 2
            have hfz27_3 := blk_frozen BK137.out 3
            go_wp2_with (first | (go_at_call 54; (try (rename_i hK_; simp only [List.append] at hK_)); (with_reducible refine (dec_digits.calls a0_2 true _ A14.out).mono ?_); rintro e w28 ⟨rfl, hb⟩; have n0_ := Aside0.mk (blk_below (g := gb137) (o := .cells #[.int .i64 a0_0, .bool a0_1, .string a0_2, .string a0_3] 40 (0, 0)) bk hb); have n1_ := Aside0.mk (below_step bl hb); clear BK137; clear HB; have BK137 := n0_; have HB := n1_; clear n0_ n1_; (try clear hb); (try clear hb2); (try clear hk); (try clear hi); have hcz29_0 : w28.cell? ⟨gb137, 0, none⟩ = some (.int .i64 a0_0) := (blk_cell BK137.out 0).trans rfl; have hcz29_1 : w28.cell? ⟨gb137, 1, none⟩ = some (.bool a0_1) := (blk_cell BK137.out 1).trans rfl; have hcz29_2 : w28.cell? ⟨gb137, 2, none⟩ = some (.string a0_2) := (blk_cell BK137.out 2).trans rfl; have hcz29_3 : w28.cell? ⟨gb137, 3, none⟩ = some (.string a0_3) := (blk_cell BK137.out 3).trans rfl; have hfz29_0 := blk_frozen BK137.out 0; have hfz29_1 := blk_frozen BK137.out 1; have hfz29_2 := blk_frozen BK137.out 2; have hfz29_3 := blk_frozen BK137.out 3; have p17 : 0 ≤ (0 : Int) := (by omega); have q17 : 0 < a0_2.size := (by have : (0 : Int) < (a0_2.size : Int) := of_decide_eq_true (by first | (with_reducible assumption) | assumption); omega); have hx17 : ∀ h : 0 < a0_2.size, ((a0_2[0]'h).toNat : Int) = bt a0_2 0 := bt_at a0_2 0; clear p17; have qi17 : (0 < (a0_2.size : Int)) = True := eq_true (of_decide_eq_true (by first | (with_reducible assumption) | assumption)); replace q17 := eq_true q17; have p25 : 0 ≤ ((ji22) : Int) := of_decide_eq_true (by first | (with_reducible assumption) | assumption); have q25 : (ji22) < (a0_2.size : Int) := of_decide_eq_true (by first | (with_reducible assumption) | assumption); have hx25 := bt_at a0_2 (ji22); replace p25 := eq_true p25; replace q25 := eq_true q25))
            go_ret
            exact ⟨by first | rfl | (simp [errW_none, errW_some] <;> rfl) | (simp only [← hji22]; first | rfl | (simp [errW_none, errW_some] <;> rfl)) | (simp [*, errW_none, errW_some] <;> rfl), bl⟩
           ·rw [if_neg c26] at H
            have c26b0 : ((bt a0_2 (ji22)) == 48) = false := beq_eq_false_iff_ne.mpr c26
            have c26b1 : ((bt a0_2 (ji22)) != 48) = true := bne_iff_ne.mpr c26
            replace H := Option.bind_eq_some_iff.mp H
            obtain ⟨t143, A300, H⟩ := H
            replace H : (some t143) = some r := H
            have A30 := Aside0.mk A300
            clear A300
            obtain rfl := Option.some.inj H
            have hcz31_0 : wc.cell? ⟨gb137, 0, none⟩ = some (.int .i64 a0_0) := (blk_cell BK137.out 0).trans rfl
            have hcz31_1 : wc.cell? ⟨gb137, 1, none⟩ = some (.bool a0_1) := (blk_cell BK137.out 1).trans rfl
            have hcz31_2 : wc.cell? ⟨gb137, 2, none⟩ = some (.string a0_2) := (blk_cell BK137.out 2).trans rfl
            have hcz31_3 : wc.cell? ⟨gb137, 3, none⟩ = some (.string a0_3) := (blk_cell BK137.out 3).trans rfl
            have hfz31_0 := blk_frozen BK137.out 0
            have hfz31_1 := blk_frozen BK137.out 1
            have hfz31_2 := blk_frozen BK137.out 2
            have hfz31_3 := blk_frozen BK137.out 3
            go_wp2_with (first | (go_at_call 54; (try (rename_i hK_; simp only [List.append] at hK_)); (with_reducible refine (dec_digits.calls a0_2 true _ A14.out).mono ?_); rintro e w32 ⟨rfl, hb⟩; have n0_ := Aside0.mk (blk_below (g := gb137) (o := .cells #[.int .i64 a0_0, .bool a0_1, .string a0_2, .string a0_3] 40 (0, 0)) bk hb); have n1_ := Aside0.mk (below_step bl hb); clear BK137; clear HB; have BK137 := n0_; have HB := n1_; clear n0_ n1_; (try clear hb); (try clear hb2); (try clear hk); (try clear hi); have hcz33_0 : w32.cell? ⟨gb137, 0, none⟩ = some (.int .i64 a0_0) := (blk_cell BK137.out 0).trans rfl; have hcz33_1 : w32.cell? ⟨gb137, 1, none⟩ = some (.bool a0_1) := (blk_cell BK137.out 1).trans rfl; have hcz33_2 : w32.cell? ⟨gb137, 2, none⟩ = some (.string a0_2) := (blk_cell BK137.out 2).trans rfl; have hcz33_3 : w32.cell? ⟨gb137, 3, none⟩ = some (.string a0_3) := (blk_cell BK137.out 3).trans rfl; have hfz33_0 := blk_frozen BK137.out 0; have hfz33_1 := blk_frozen BK137.out 1; have hfz33_2 := blk_frozen BK137.out 2; have hfz33_3 := blk_frozen BK137.out 3; have p17 : 0 ≤ (0 : Int) := (by omega); have q17 : 0 < a0_2.size := (by have : (0 : Int) < (a0_2.size : Int) := of_decide_eq_true (by first | (with_reducible assumption) | assumption); omega); have hx17 : ∀ h : 0 < a0_2.size, ((a0_2[0]'h).toNat : Int) = bt a0_2 0 := bt_at a0_2 0; clear p17; have qi17 : (0 < (a0_2.size : Int)) = True := eq_true (of_decide_eq_true (by first | (with_reducible assumption) | assumption)); replace q17 := eq_true q17; have p25 : 0 ≤ ((ji22) : Int) := of_decide_eq_true (by first | (with_reducible assumption) | assumption); have q25 : (ji22) < (a0_2.size : Int) := of_decide_eq_true (by first | (with_reducible assumption) | assumption); have hx25 := bt_at a0_2 (ji22); replace p25 := eq_true p25; replace q25 := eq_true q25) | (go_at_call 16; (try (rename_i hK_; simp only [List.append] at hK_)); (with_reducible refine (big_Good.calls kj2 a0_3 t143 _ A30.out).mono ?_); rintro e w' ⟨rfl, ⟨nd, rfl⟩⟩))
            go_ret
            exact ⟨by first | rfl | (simp [errW_none, errW_some] <;> rfl) | (simp only [← hji22]; first | rfl | (simp [errW_none, errW_some] <;> rfl)) | (simp [*, errW_none, errW_some] <;> rfl), bl⟩
          ·rw [if_neg c24] at H
           exact absurd H (by simp)
         ·rw [if_neg c23] at H
          exact absurd H (by simp)
       ·rw [if_neg c16] at H
        exact absurd H (by simp)
      ·replace c15 := Bool.eq_false_iff.mpr c15
       subst c15
       have H1 : (some false) = some r := by rw [if_neg (show ¬ (false = true) by decide)] at H; exact H
       clear H
       have H := H1
       clear H1
       obtain rfl := Option.some.inj H
       have hcz34_0 : wc.cell? ⟨gb137, 0, none⟩ = some (.int .i64 a0_0) := (blk_cell BK137.out 0).trans rfl
       have hcz34_1 : wc.cell? ⟨gb137, 1, none⟩ = some (.bool a0_1) := (blk_cell BK137.out 1).trans rfl
       have hcz34_2 : wc.cell? ⟨gb137, 2, none⟩ = some (.string a0_2) := (blk_cell BK137.out 2).trans rfl
       have hcz34_3 : wc.cell? ⟨gb137, 3, none⟩ = some (.string a0_3) := (blk_cell BK137.out 3).trans rfl
       have hfz34_0 := blk_frozen BK137.out 0
       have hfz34_1 := blk_frozen BK137.out 1
       have hfz34_2 := blk_frozen BK137.out 2
       have hfz34_3 := blk_frozen BK137.out 3
       go_wp2_with (first | (go_at_call 54; (try (rename_i hK_; simp only [List.append] at hK_)); (with_reducible refine (dec_digits.calls a0_2 false _ A14.out).mono ?_); rintro e w35 ⟨rfl, hb⟩; have n0_ := Aside0.mk (blk_below (g := gb137) (o := .cells #[.int .i64 a0_0, .bool a0_1, .string a0_2, .string a0_3] 40 (0, 0)) bk hb); have n1_ := Aside0.mk (below_step bl hb); clear BK137; clear HB; have BK137 := n0_; have HB := n1_; clear n0_ n1_; (try clear hb); (try clear hb2); (try clear hk); (try clear hi)))
       go_ret
       exact ⟨by first | rfl | (simp [errW_none, errW_some] <;> rfl) | (simp [*, errW_none, errW_some] <;> rfl) | ((generalize ByteArray.toList _ = z_); cases z_ <;> first | rfl | (simp; done)), bl⟩
     ·rw [if_neg c13] at H
      have c13b0 : decide (0 < (a0_2.size : Int)) = false := decide_eq_false c13
      have c13b1 : decide (0 < a0_2.size) = false := decide_eq_false (by omega)
      clear c13
      obtain rfl := Option.some.inj H
      have hcz36_0 : wc.cell? ⟨gb137, 0, none⟩ = some (.int .i64 a0_0) := (blk_cell BK137.out 0).trans rfl
      have hcz36_1 : wc.cell? ⟨gb137, 1, none⟩ = some (.bool a0_1) := (blk_cell BK137.out 1).trans rfl
      have hcz36_2 : wc.cell? ⟨gb137, 2, none⟩ = some (.string a0_2) := (blk_cell BK137.out 2).trans rfl
      have hcz36_3 : wc.cell? ⟨gb137, 3, none⟩ = some (.string a0_3) := (blk_cell BK137.out 3).trans rfl
      have hfz36_0 := blk_frozen BK137.out 0
      have hfz36_1 := blk_frozen BK137.out 1
      have hfz36_2 := blk_frozen BK137.out 2
      have hfz36_3 := blk_frozen BK137.out 3
      go_wp2
      go_ret
      exact ⟨by first | rfl | (simp [errW_none, errW_some] <;> rfl) | (simp [*, errW_none, errW_some] <;> rfl) | ((generalize ByteArray.toList _ = z_); cases z_ <;> first | rfl | (simp; done)), bl⟩
    ·rw [if_neg c12] at H
     have c12b0 : (a0_0 == 0) = false := beq_eq_false_iff_ne.mpr c12
     have c12b1 : (a0_0 != 0) = true := bne_iff_ne.mpr c12
     obtain rfl := Option.some.inj H
     have hcz37_0 : wc.cell? ⟨gb137, 0, none⟩ = some (.int .i64 a0_0) := (blk_cell BK137.out 0).trans rfl
     have hcz37_1 : wc.cell? ⟨gb137, 1, none⟩ = some (.bool a0_1) := (blk_cell BK137.out 1).trans rfl
     have hcz37_2 : wc.cell? ⟨gb137, 2, none⟩ = some (.string a0_2) := (blk_cell BK137.out 2).trans rfl
     have hcz37_3 : wc.cell? ⟨gb137, 3, none⟩ = some (.string a0_3) := (blk_cell BK137.out 3).trans rfl
     have hfz37_0 := blk_frozen BK137.out 0
     have hfz37_1 := blk_frozen BK137.out 1
     have hfz37_2 := blk_frozen BK137.out 2
     have hfz37_3 := blk_frozen BK137.out 3
     go_wp2
     go_ret
     exact ⟨by first | rfl | (simp [errW_none, errW_some] <;> rfl) | (simp [*, errW_none, errW_some] <;> rfl) | ((generalize ByteArray.toList _ = z_); cases z_ <;> first | rfl | (simp; done)), bl⟩

/-! ### dec_Print: function 35 -/
def dec_Print.j0 : Nat → ByteArray → Int → Bool → ByteArray → ByteArray → Option (ByteArray)
 | 0, _, _, _, _, _ => none
 | k + 1, x3, x145000, x145001, x145002, x145003 => (dec_Good.f k x145000 x145001 x145002 x145003).bind fun t145 => (if t145 = true then (if (x145000 == 2 && (!x145001 && (x145002.toList == ([] : List UInt8) && (x145003.toList == ([] : List UInt8))))) = true then (some (⟨#[46, 110, 97, 110]⟩ : ByteArray)) else (if (x145000 == 1 && (x145002.toList == ([] : List UInt8) && (x145003.toList == ([] : List UInt8)))) = true then (if x3.size + 4 ≤ 9223372036854775807 then (some (x3 ++ (⟨#[46, 105, 110, 102]⟩ : ByteArray))) else (none)) else (if 0 < (x145003.size : Int) then (if (bt x145003 0) = 45 then (if x3.size + x145002.size ≤ 9223372036854775807 then (if (x3 ++ x145002).size + 2 ≤ 9223372036854775807 then (if ((x3 ++ x145002) ++ (⟨#[46, 101]⟩ : ByteArray)).size + 0 ≤ 9223372036854775807 then (if (((x3 ++ x145002) ++ (⟨#[46, 101]⟩ : ByteArray)) ++ (⟨#[]⟩ : ByteArray)).size + x145003.size ≤ 9223372036854775807 then (some ((((x3 ++ x145002) ++ (⟨#[46, 101]⟩ : ByteArray)) ++ (⟨#[]⟩ : ByteArray)) ++ x145003)) else (none)) else (none)) else (none)) else (none)) else (if x3.size + x145002.size ≤ 9223372036854775807 then (if (x3 ++ x145002).size + 2 ≤ 9223372036854775807 then (if ((x3 ++ x145002) ++ (⟨#[46, 101]⟩ : ByteArray)).size + 1 ≤ 9223372036854775807 then (if (((x3 ++ x145002) ++ (⟨#[46, 101]⟩ : ByteArray)) ++ (⟨#[43]⟩ : ByteArray)).size + x145003.size ≤ 9223372036854775807 then (some ((((x3 ++ x145002) ++ (⟨#[46, 101]⟩ : ByteArray)) ++ (⟨#[43]⟩ : ByteArray)) ++ x145003)) else (none)) else (none)) else (none)) else (none))) else (none)))) else (some (⟨#[]⟩ : ByteArray)))
def dec_Print.f (k : Nat) (a0_0 : Int) (a0_1 : Bool) (a0_2 : ByteArray) (a0_3 : ByteArray) : Option (ByteArray) := if a0_1 = true then (dec_Print.j0 k (⟨#[45]⟩ : ByteArray) a0_0 a0_1 a0_2 a0_3) else (dec_Print.j0 k (⟨#[]⟩ : ByteArray) a0_0 a0_1 a0_2 a0_3)
theorem dec_Print.mono_l : ∀ k, (∀ y0 y1 y2 y3 y4, LeO (dec_Print.j0 k y0 y1 y2 y3 y4) (dec_Print.j0 (k + 1) y0 y1 y2 y3 y4))
 | 0 => fun _ _ _ _ _ r h => by simp [dec_Print.j0] at h
 | k + 1 => by
  have ih0 := dec_Print.mono_l k
  ·intro y0 y1 y2 y3 y4
   unfold dec_Print.j0
   repeat' first
   | (with_reducible exact ih0 _ _ _ _ _)
   | (with_reducible exact dec_Good.mono _ _ _ _ _)
   | (with_reducible exact LeO.refl _)
   | (with_reducible exact LeO.none _)
   | (with_reducible refine LeO.ite ?_ ?_)
   | (with_reducible refine LeO.bind ?_ (fun _ => ?_))
   | exact ih0 _ _ _ _ _
   | exact dec_Good.mono _ _ _ _ _
   | exact LeO.none _
   | refine LeO.ite ?_ ?_
   | refine LeO.bind ?_ (fun _ => ?_)
theorem dec_Print.mono : ∀ a0 a1 a2 a3 k, LeO (dec_Print.f k a0 a1 a2 a3) (dec_Print.f (k + 1) a0 a1 a2 a3) := by
 intro a0 a1 a2 a3 k
 have ih0 := dec_Print.mono_l k
 unfold dec_Print.f
 repeat' first
   | (with_reducible exact ih0 _ _ _ _ _)
   | (with_reducible exact dec_Good.mono _ _ _ _ _)
   | (with_reducible exact LeO.refl _)
   | (with_reducible exact LeO.none _)
   | (with_reducible refine LeO.ite ?_ ?_)
   | (with_reducible refine LeO.bind ?_ (fun _ => ?_))
   | exact ih0 _ _ _ _ _
   | exact dec_Good.mono _ _ _ _ _
   | exact LeO.none _
   | refine LeO.ite ?_ ?_
   | refine LeO.bind ?_ (fun _ => ?_)
set_option maxHeartbeats 40000000 in
set_option maxRecDepth 100000 in
theorem dec_Print.calls (k : Nat) (a0_0 : Int) (a0_1 : Bool) (a0_2 : ByteArray) (a0_3 : ByteArray) (r : ByteArray) (w : World) (h : dec_Print.f k a0_0 a0_1 a0_2 a0_3 = some r) :
  Calls Tryd.prog 35 #[.agg #[.int .i64 a0_0, .bool a0_1, .string a0_2, .string a0_3]] w fun e w' => e = .returned (.string r) ∧ Below w.heap.size w w' := by
 have hu40 := Tryd.underlying40
 have HB := Aside0.mk (Below.refl w.heap.size w)
 have H : (if a0_1 = true then (dec_Print.j0 k (⟨#[45]⟩ : ByteArray) a0_0 a0_1 a0_2 a0_3) else (dec_Print.j0 k (⟨#[]⟩ : ByteArray) a0_0 a0_1 a0_2 a0_3)) = some r := h
 clear h
 have HC2 := Aside0.mk H
 clear H
 go_enter Tryd.func35, Tryd.ntmps35
 go_upto_if 6 with (first | ((with_reducible refine gate_dst (N := 1) rfl ?_); refine box_event ?hg (N := 1) ?hd (cs := #[.int .i64 a0_0, .bool a0_1, .string a0_2, .string a0_3]) (t := 40) ?hr ?_; (case hd => rfl); (case hg => rfl); (case hr => first | (go_simp; done) | (go_simp; rfl)); intro gb144 hg w3 hbox hb; have n0_ := Aside0.mk (below_step bl hb); have n1_ := Aside0.mk (hbox); have n2_ := Aside0.mk ((by rw [hg]; exact (below_size bl) : w.heap.size ≤ gb144)); have n3_ := Aside0.mk ((by rw [hg]; exact (below_size bl) : w.heap.size ≤ gb144)); clear HB; have HB := n0_; have BK144 := n1_; have GW144 := n2_; have GE144 := n3_; clear n0_ n1_ n2_ n3_; clear hb hbox hg; have hcz4_0 : w3.cell? ⟨gb144, 0, none⟩ = some (.int .i64 a0_0) := (blk_cell BK144.out 0).trans rfl; have hcz4_1 : w3.cell? ⟨gb144, 1, none⟩ = some (.bool a0_1) := (blk_cell BK144.out 1).trans rfl; have hcz4_2 : w3.cell? ⟨gb144, 2, none⟩ = some (.string a0_2) := (blk_cell BK144.out 2).trans rfl; have hcz4_3 : w3.cell? ⟨gb144, 3, none⟩ = some (.string a0_3) := (blk_cell BK144.out 3).trans rfl; have hfz4_0 := blk_frozen BK144.out 0; have hfz4_1 := blk_frozen BK144.out 1; have hfz4_2 := blk_frozen BK144.out 2; have hfz4_3 := blk_frozen BK144.out 3))
 (try simp only [Act.put, List.setIfInBounds_toArray, List.set_cons_zero, List.set_cons_succ])
 go_cut [3] (fun v3 wc => ∃ (kq : Nat) (x3_1 : ByteArray), v3 = .string x3_1 ∧ Aside0 (dec_Print.j0 kq x3_1 a0_0 a0_1 a0_2 a0_3 = some r) ∧ Aside0 (kq ≤ k) ∧ Aside0 (wc.heap[gb144]? = some (.cells #[.int .i64 a0_0, .bool a0_1, .string a0_2, .string a0_3] 40 (0, 0))) ∧ Aside0 (Below w.heap.size w wc))
 case first =>
  have H := HC2.out
  clear HC2
  by_cases c5 : a0_1 = true
  ·subst c5
   have H1 : (dec_Print.j0 k (⟨#[45]⟩ : ByteArray) a0_0 true a0_2 a0_3) = some r := by rw [if_pos rfl] at H; exact H
   clear H
   have H := H1
   clear H1
   have H' := Aside0.mk H
   clear H
   go_wp2
   go_meet
   case rel => exact ⟨_, ((⟨#[45]⟩ : ByteArray)), (by first | rfl | (simp; done) | (simp [*]; done) | (simp [wrap64]; done)), H', ⟨by first | omega | exact Nat.le_refl _⟩, ⟨by (with_reducible repeat (first | refine blk_drewN ?_ _ | refine blk_drew ?_ | refine blk_alloc ?_ _)); exact BK144.out⟩, ⟨bl⟩⟩
  ·replace c5 := Bool.eq_false_iff.mpr c5
   subst c5
   have H1 : (dec_Print.j0 k (⟨#[]⟩ : ByteArray) a0_0 false a0_2 a0_3) = some r := by rw [if_neg (show ¬ (false = true) by decide)] at H; exact H
   clear H
   have H := H1
   clear H1
   have H' := Aside0.mk H
   clear H
   go_wp2
   go_meet
   case rel => exact ⟨_, ((⟨#[]⟩ : ByteArray)), (by first | rfl | (simp; done) | (simp [*]; done) | (simp [wrap64]; done)), H', ⟨by first | omega | exact Nat.le_refl _⟩, ⟨by (with_reducible repeat (first | refine blk_drewN ?_ _ | refine blk_drew ?_ | refine blk_alloc ?_ _)); exact BK144.out⟩, ⟨bl⟩⟩
 case rest =>
  clear HC2
  try clear p2; try clear c3; try clear c5; try clear hcz4_0; try clear hcz4_1; try clear hcz4_2; try clear hcz4_3; try clear hfz4_0; try clear hfz4_1; try clear hfz4_2; try clear hfz4_3
  obtain ⟨kq, x3_1, rfl, HA, HJ1, BK144, HB⟩ := hcut
  cases kq with
  | zero => exact absurd HA.out (by simp [dec_Print.j0])
  | succ kj1 =>
   have H := HA.out
   clear HA
   simp only [dec_Print.j0] at H
   replace H := Option.bind_eq_some_iff.mp H
   obtain ⟨t145, A60, H⟩ := H
   replace H : (if t145 = true then (if (a0_0 == 2 && (!a0_1 && (a0_2.toList == ([] : List UInt8) && (a0_3.toList == ([] : List UInt8))))) = true then (some (⟨#[46, 110, 97, 110]⟩ : ByteArray)) else (if (a0_0 == 1 && (a0_2.toList == ([] : List UInt8) && (a0_3.toList == ([] : List UInt8)))) = true then (if x3_1.size + 4 ≤ 9223372036854775807 then (some (x3_1 ++ (⟨#[46, 105, 110, 102]⟩ : ByteArray))) else (none)) else (if 0 < (a0_3.size : Int) then (if (bt a0_3 0) = 45 then (if x3_1.size + a0_2.size ≤ 9223372036854775807 then (if (x3_1 ++ a0_2).size + 2 ≤ 9223372036854775807 then (if ((x3_1 ++ a0_2) ++ (⟨#[46, 101]⟩ : ByteArray)).size + 0 ≤ 9223372036854775807 then (if (((x3_1 ++ a0_2) ++ (⟨#[46, 101]⟩ : ByteArray)) ++ (⟨#[]⟩ : ByteArray)).size + a0_3.size ≤ 9223372036854775807 then (some ((((x3_1 ++ a0_2) ++ (⟨#[46, 101]⟩ : ByteArray)) ++ (⟨#[]⟩ : ByteArray)) ++ a0_3)) else (none)) else (none)) else (none)) else (none)) else (if x3_1.size + a0_2.size ≤ 9223372036854775807 then (if (x3_1 ++ a0_2).size + 2 ≤ 9223372036854775807 then (if ((x3_1 ++ a0_2) ++ (⟨#[46, 101]⟩ : ByteArray)).size + 1 ≤ 9223372036854775807 then (if (((x3_1 ++ a0_2) ++ (⟨#[46, 101]⟩ : ByteArray)) ++ (⟨#[43]⟩ : ByteArray)).size + a0_3.size ≤ 9223372036854775807 then (some ((((x3_1 ++ a0_2) ++ (⟨#[46, 101]⟩ : ByteArray)) ++ (⟨#[43]⟩ : ByteArray)) ++ a0_3)) else (none)) else (none)) else (none)) else (none))) else (none)))) else (some (⟨#[]⟩ : ByteArray))) = some r := H
   have A6 := Aside0.mk A60
   clear A60
   by_cases c7 : t145 = true
   ·subst c7
    have H1 : (if (a0_0 == 2 && (!a0_1 && (a0_2.toList == ([] : List UInt8) && (a0_3.toList == ([] : List UInt8))))) = true then (some (⟨#[46, 110, 97, 110]⟩ : ByteArray)) else (if (a0_0 == 1 && (a0_2.toList == ([] : List UInt8) && (a0_3.toList == ([] : List UInt8)))) = true then (if x3_1.size + 4 ≤ 9223372036854775807 then (some (x3_1 ++ (⟨#[46, 105, 110, 102]⟩ : ByteArray))) else (none)) else (if 0 < (a0_3.size : Int) then (if (bt a0_3 0) = 45 then (if x3_1.size + a0_2.size ≤ 9223372036854775807 then (if (x3_1 ++ a0_2).size + 2 ≤ 9223372036854775807 then (if ((x3_1 ++ a0_2) ++ (⟨#[46, 101]⟩ : ByteArray)).size + 0 ≤ 9223372036854775807 then (if (((x3_1 ++ a0_2) ++ (⟨#[46, 101]⟩ : ByteArray)) ++ (⟨#[]⟩ : ByteArray)).size + a0_3.size ≤ 9223372036854775807 then (some ((((x3_1 ++ a0_2) ++ (⟨#[46, 101]⟩ : ByteArray)) ++ (⟨#[]⟩ : ByteArray)) ++ a0_3)) else (none)) else (none)) else (none)) else (none)) else (if x3_1.size + a0_2.size ≤ 9223372036854775807 then (if (x3_1 ++ a0_2).size + 2 ≤ 9223372036854775807 then (if ((x3_1 ++ a0_2) ++ (⟨#[46, 101]⟩ : ByteArray)).size + 1 ≤ 9223372036854775807 then (if (((x3_1 ++ a0_2) ++ (⟨#[46, 101]⟩ : ByteArray)) ++ (⟨#[43]⟩ : ByteArray)).size + a0_3.size ≤ 9223372036854775807 then (some ((((x3_1 ++ a0_2) ++ (⟨#[46, 101]⟩ : ByteArray)) ++ (⟨#[43]⟩ : ByteArray)) ++ a0_3)) else (none)) else (none)) else (none)) else (none))) else (none)))) = some r := by rw [if_pos rfl] at H; exact H
    clear H
    have H := H1
    clear H1
    by_cases c8 : (a0_0 == 2 && (!a0_1 && (a0_2.toList == ([] : List UInt8) && (a0_3.toList == ([] : List UInt8))))) = true
    ·rw [if_pos c8] at H
     have c8b0 : (a0_0 == 2 && (!a0_1 && (a0_2.toList == ([] : List UInt8) && (a0_3.toList == ([] : List UInt8))))) = true := c8
     (try (have c8b4 : (a0_0 == 2 && (!a0_1 && (a0_2.toList.isEmpty && (a0_3.toList.isEmpty)))) = true := by simpa using c8b0))
     (try (have c8b1 : decide (a0_0 = 2 && (!a0_1 && (a0_2.toList == ([] : List UInt8) && (a0_3.toList == ([] : List UInt8))))) = true := by simpa using c8))
     (try (have c8b2 : (a0_0 == 2 && (!a0_1 && (a0_2.toList == ([] : List UInt8) && (a0_3.toList == ([] : List UInt8))))) = true := by simpa using c8))
     clear c8
     obtain rfl := Option.some.inj H
     have hcz9_0 : wc.cell? ⟨gb144, 0, none⟩ = some (.int .i64 a0_0) := (blk_cell BK144.out 0).trans rfl
     have hcz9_1 : wc.cell? ⟨gb144, 1, none⟩ = some (.bool a0_1) := (blk_cell BK144.out 1).trans rfl
     have hcz9_2 : wc.cell? ⟨gb144, 2, none⟩ = some (.string a0_2) := (blk_cell BK144.out 2).trans rfl
     have hcz9_3 : wc.cell? ⟨gb144, 3, none⟩ = some (.string a0_3) := (blk_cell BK144.out 3).trans rfl
     have hfz9_0 := blk_frozen BK144.out 0
     have hfz9_1 := blk_frozen BK144.out 1
     have hfz9_2 := blk_frozen BK144.out 2
     have hfz9_3 := blk_frozen BK144.out 3
     go_wp2_with (first | ((with_reducible refine gate_callee (f := 33) rfl ?_); refine goesL_ (some 9) rfl rfl Tryd.func33 (by kernel_rfl) rfl #[.agg #[.int .i64 a0_0, .bool a0_1, .string a0_2, .string a0_3]] rfl (by (try simp only [List.map_toArray, List.map_cons, List.map_nil]); first | done | rfl | (simp only [List.length_drop, List.length_take]; rfl)) ?_; (with_reducible refine (dec_Good.calls kj1 a0_0 a0_1 a0_2 a0_3 true _ A6.out).mono ?_); rintro e w10 ⟨rfl, hb⟩; refine ⟨_, rfl, ?_⟩; have n0_ := Aside0.mk (blk_below (g := gb144) (o := .cells #[.int .i64 a0_0, .bool a0_1, .string a0_2, .string a0_3] 40 (0, 0)) bk hb); have n1_ := Aside0.mk (below_step bl hb); clear BK144; clear HB; have BK144 := n0_; have HB := n1_; clear n0_ n1_; (try clear hb); (try clear hb2); (try clear hk); (try clear hi); have hcz11_0 : w10.cell? ⟨gb144, 0, none⟩ = some (.int .i64 a0_0) := (blk_cell BK144.out 0).trans rfl; have hcz11_1 : w10.cell? ⟨gb144, 1, none⟩ = some (.bool a0_1) := (blk_cell BK144.out 1).trans rfl; have hcz11_2 : w10.cell? ⟨gb144, 2, none⟩ = some (.string a0_2) := (blk_cell BK144.out 2).trans rfl; have hcz11_3 : w10.cell? ⟨gb144, 3, none⟩ = some (.string a0_3) := (blk_cell BK144.out 3).trans rfl; have hfz11_0 := blk_frozen BK144.out 0; have hfz11_1 := blk_frozen BK144.out 1; have hfz11_2 := blk_frozen BK144.out 2; have hfz11_3 := blk_frozen BK144.out 3))
     go_ret
     exact ⟨by first | rfl | (simp [errW_none, errW_some] <;> rfl) | (simp [*, errW_none, errW_some] <;> rfl) | ((generalize ByteArray.toList _ = z_); cases z_ <;> first | rfl | (simp; done)), bl⟩
    ·rw [if_neg c8] at H
     have c8b0 : (a0_0 == 2 && (!a0_1 && (a0_2.toList == ([] : List UInt8) && (a0_3.toList == ([] : List UInt8))))) = false := by simpa using c8
     (try (have c8b4 : (a0_0 == 2 && (!a0_1 && (a0_2.toList.isEmpty && (a0_3.toList.isEmpty)))) = false := by simpa using c8b0))
     (try (have c8b1 : decide (a0_0 = 2 && (!a0_1 && (a0_2.toList == ([] : List UInt8) && (a0_3.toList == ([] : List UInt8))))) = false := by simpa using c8))
     (try (have c8b2 : (a0_0 == 2 && (!a0_1 && (a0_2.toList == ([] : List UInt8) && (a0_3.toList == ([] : List UInt8))))) = false := by simpa using c8))
     (try (have c8b3 : ¬ (a0_0 = 2 && (!a0_1 && (a0_2.toList == ([] : List UInt8) && (a0_3.toList == ([] : List UInt8))))) := by simpa using c8))
     clear c8
     by_cases c12 : (a0_0 == 1 && (a0_2.toList == ([] : List UInt8) && (a0_3.toList == ([] : List UInt8)))) = true
     ·rw [if_pos c12] at H
      have c12b0 : (a0_0 == 1 && (a0_2.toList == ([] : List UInt8) && (a0_3.toList == ([] : List UInt8)))) = true := c12
      (try (have c12b4 : (a0_0 == 1 && (a0_2.toList.isEmpty && (a0_3.toList.isEmpty))) = true := by simpa using c12b0))
      (try (have c12b1 : decide (a0_0 = 1 && (a0_2.toList == ([] : List UInt8) && (a0_3.toList == ([] : List UInt8)))) = true := by simpa using c12))
      (try (have c12b2 : (a0_0 == 1 && (a0_2.toList == ([] : List UInt8) && (a0_3.toList == ([] : List UInt8)))) = true := by simpa using c12))
      clear c12
      by_cases c13 : x3_1.size + 4 ≤ 9223372036854775807
      ·rw [if_pos c13] at H
       have c13b0 := eq_true c13
       have c13b1 : decide (x3_1.size + 4 ≤ 9223372036854775807) = true := decide_eq_true c13
       try have c13b2 : (9223372036854775807 < x3_1.size + 4) = False := eq_false (Nat.not_lt.2 c13)
       obtain rfl := Option.some.inj H
       have hcz14_0 : wc.cell? ⟨gb144, 0, none⟩ = some (.int .i64 a0_0) := (blk_cell BK144.out 0).trans rfl
       have hcz14_1 : wc.cell? ⟨gb144, 1, none⟩ = some (.bool a0_1) := (blk_cell BK144.out 1).trans rfl
       have hcz14_2 : wc.cell? ⟨gb144, 2, none⟩ = some (.string a0_2) := (blk_cell BK144.out 2).trans rfl
       have hcz14_3 : wc.cell? ⟨gb144, 3, none⟩ = some (.string a0_3) := (blk_cell BK144.out 3).trans rfl
       have hfz14_0 := blk_frozen BK144.out 0
       have hfz14_1 := blk_frozen BK144.out 1
       have hfz14_2 := blk_frozen BK144.out 2
       have hfz14_3 := blk_frozen BK144.out 3
       go_wp2_with (first | ((with_reducible refine gate_callee (f := 33) rfl ?_); refine goesL_ (some 9) rfl rfl Tryd.func33 (by kernel_rfl) rfl #[.agg #[.int .i64 a0_0, .bool a0_1, .string a0_2, .string a0_3]] rfl (by (try simp only [List.map_toArray, List.map_cons, List.map_nil]); first | done | rfl | (simp only [List.length_drop, List.length_take]; rfl)) ?_; (with_reducible refine (dec_Good.calls kj1 a0_0 a0_1 a0_2 a0_3 true _ A6.out).mono ?_); rintro e w15 ⟨rfl, hb⟩; refine ⟨_, rfl, ?_⟩; have n0_ := Aside0.mk (blk_below (g := gb144) (o := .cells #[.int .i64 a0_0, .bool a0_1, .string a0_2, .string a0_3] 40 (0, 0)) bk hb); have n1_ := Aside0.mk (below_step bl hb); clear BK144; clear HB; have BK144 := n0_; have HB := n1_; clear n0_ n1_; (try clear hb); (try clear hb2); (try clear hk); (try clear hi); have hcz16_0 : w15.cell? ⟨gb144, 0, none⟩ = some (.int .i64 a0_0) := (blk_cell BK144.out 0).trans rfl; have hcz16_1 : w15.cell? ⟨gb144, 1, none⟩ = some (.bool a0_1) := (blk_cell BK144.out 1).trans rfl; have hcz16_2 : w15.cell? ⟨gb144, 2, none⟩ = some (.string a0_2) := (blk_cell BK144.out 2).trans rfl; have hcz16_3 : w15.cell? ⟨gb144, 3, none⟩ = some (.string a0_3) := (blk_cell BK144.out 3).trans rfl; have hfz16_0 := blk_frozen BK144.out 0; have hfz16_1 := blk_frozen BK144.out 1; have hfz16_2 := blk_frozen BK144.out 2; have hfz16_3 := blk_frozen BK144.out 3))
       go_ret
       exact ⟨by first | rfl | (simp [errW_none, errW_some] <;> rfl) | (simp [*, errW_none, errW_some] <;> rfl) | ((generalize ByteArray.toList _ = z_); cases z_ <;> first | rfl | (simp; done)), bl⟩
      ·rw [if_neg c13] at H
       exact absurd H (by simp)
     ·rw [if_neg c12] at H
      have c12b0 : (a0_0 == 1 && (a0_2.toList == ([] : List UInt8) && (a0_3.toList == ([] : List UInt8)))) = false := by simpa using c12
      (try (have c12b4 : (a0_0 == 1 && (a0_2.toList.isEmpty && (a0_3.toList.isEmpty))) = false := by simpa using c12b0))
      (try (have c12b1 : decide (a0_0 = 1 && (a0_2.toList == ([] : List UInt8) && (a0_3.toList == ([] : List UInt8)))) = false := by simpa using c12))
      (try (have c12b2 : (a0_0 == 1 && (a0_2.toList == ([] : List UInt8) && (a0_3.toList == ([] : List UInt8)))) = false := by simpa using c12))
      (try (have c12b3 : ¬ (a0_0 = 1 && (a0_2.toList == ([] : List UInt8) && (a0_3.toList == ([] : List UInt8)))) := by simpa using c12))
      clear c12
      by_cases c17 : 0 < (a0_3.size : Int)
      ·rw [if_pos c17] at H
       have c17b0 : decide (0 < (a0_3.size : Int)) = true := decide_eq_true c17
       have c17b1 : decide (0 < a0_3.size) = true := decide_eq_true (by omega)
       clear c17
       by_cases c19 : (bt a0_3 0) = 45
       ·rw [if_pos c19] at H
        have c19b0 : ((bt a0_3 0) == 45) = true := beq_iff_eq.mpr c19
        have c19b1 : ((bt a0_3 0) != 45) = false := bne_eq_false_iff_eq.mpr c19
        clear c19
        by_cases c20 : x3_1.size + a0_2.size ≤ 9223372036854775807
        ·rw [if_pos c20] at H
         have c20b0 := eq_true c20
         have c20b1 : decide (x3_1.size + a0_2.size ≤ 9223372036854775807) = true := decide_eq_true c20
         try have c20b2 : (9223372036854775807 < x3_1.size + a0_2.size) = False := eq_false (Nat.not_lt.2 c20)
         by_cases c21 : (x3_1 ++ a0_2).size + 2 ≤ 9223372036854775807
         ·rw [if_pos c21] at H
          have c21b0 := eq_true c21
          have c21b1 : decide ((x3_1 ++ a0_2).size + 2 ≤ 9223372036854775807) = true := decide_eq_true c21
          try have c21b2 : (9223372036854775807 < (x3_1 ++ a0_2).size + 2) = False := eq_false (Nat.not_lt.2 c21)
          try have c21b3 : (9223372036854775807 < x3_1.size + a0_2.size + 2) = False := eq_false (Nat.not_lt.2 (by have z_ := c21; simp only [ByteArray.size_append, ByteArray.size_extract, Nat.min_self] at z_; exact z_))
          by_cases c22 : ((x3_1 ++ a0_2) ++ (⟨#[46, 101]⟩ : ByteArray)).size + 0 ≤ 9223372036854775807
          ·rw [if_pos c22] at H
           have c22b0 := eq_true c22
           have c22b1 : decide (((x3_1 ++ a0_2) ++ (⟨#[46, 101]⟩ : ByteArray)).size + 0 ≤ 9223372036854775807) = true := decide_eq_true c22
           try have c22b2 : (9223372036854775807 < ((x3_1 ++ a0_2) ++ (⟨#[46, 101]⟩ : ByteArray)).size + 0) = False := eq_false (Nat.not_lt.2 c22)
           try have c22b3 : (9223372036854775807 < x3_1.size + a0_2.size + 2 + 0) = False := eq_false (Nat.not_lt.2 (by have z_ := c22; simp only [ByteArray.size_append, ByteArray.size_extract, Nat.min_self] at z_; exact z_))
           by_cases c23 : (((x3_1 ++ a0_2) ++ (⟨#[46, 101]⟩ : ByteArray)) ++ (⟨#[]⟩ : ByteArray)).size + a0_3.size ≤ 9223372036854775807
           ·rw [if_pos c23] at H
            have c23b0 := eq_true c23
            have c23b1 : decide ((((x3_1 ++ a0_2) ++ (⟨#[46, 101]⟩ : ByteArray)) ++ (⟨#[]⟩ : ByteArray)).size + a0_3.size ≤ 9223372036854775807) = true := decide_eq_true c23
            try have c23b2 : (9223372036854775807 < (((x3_1 ++ a0_2) ++ (⟨#[46, 101]⟩ : ByteArray)) ++ (⟨#[]⟩ : ByteArray)).size + a0_3.size) = False := eq_false (Nat.not_lt.2 c23)
            try have c23b3 : (9223372036854775807 < x3_1.size + a0_2.size + 2 + 0 + a0_3.size) = False := eq_false (Nat.not_lt.2 (by have z_ := c23; simp only [ByteArray.size_append, ByteArray.size_extract, Nat.min_self] at z_; exact z_))
            obtain rfl := Option.some.inj H
            have hcz24_0 : wc.cell? ⟨gb144, 0, none⟩ = some (.int .i64 a0_0) := (blk_cell BK144.out 0).trans rfl
            have hcz24_1 : wc.cell? ⟨gb144, 1, none⟩ = some (.bool a0_1) := (blk_cell BK144.out 1).trans rfl
            have hcz24_2 : wc.cell? ⟨gb144, 2, none⟩ = some (.string a0_2) := (blk_cell BK144.out 2).trans rfl
            have hcz24_3 : wc.cell? ⟨gb144, 3, none⟩ = some (.string a0_3) := (blk_cell BK144.out 3).trans rfl
            have hfz24_0 := blk_frozen BK144.out 0
            have hfz24_1 := blk_frozen BK144.out 1
            have hfz24_2 := blk_frozen BK144.out 2
            have hfz24_3 := blk_frozen BK144.out 3
            go_wp2_with (first | ((with_reducible refine gate_callee (f := 33) rfl ?_); refine goesL_ (some 9) rfl rfl Tryd.func33 (by kernel_rfl) rfl #[.agg #[.int .i64 a0_0, .bool a0_1, .string a0_2, .string a0_3]] rfl (by (try simp only [List.map_toArray, List.map_cons, List.map_nil]); first | done | rfl | (simp only [List.length_drop, List.length_take]; rfl)) ?_; (with_reducible refine (dec_Good.calls kj1 a0_0 a0_1 a0_2 a0_3 true _ A6.out).mono ?_); rintro e w25 ⟨rfl, hb⟩; refine ⟨_, rfl, ?_⟩; have n0_ := Aside0.mk (blk_below (g := gb144) (o := .cells #[.int .i64 a0_0, .bool a0_1, .string a0_2, .string a0_3] 40 (0, 0)) bk hb); have n1_ := Aside0.mk (below_step bl hb); clear BK144; clear HB; have BK144 := n0_; have HB := n1_; clear n0_ n1_; (try clear hb); (try clear hb2); (try clear hk); (try clear hi); have hcz26_0 : w25.cell? ⟨gb144, 0, none⟩ = some (.int .i64 a0_0) := (blk_cell BK144.out 0).trans rfl; have hcz26_1 : w25.cell? ⟨gb144, 1, none⟩ = some (.bool a0_1) := (blk_cell BK144.out 1).trans rfl; have hcz26_2 : w25.cell? ⟨gb144, 2, none⟩ = some (.string a0_2) := (blk_cell BK144.out 2).trans rfl; have hcz26_3 : w25.cell? ⟨gb144, 3, none⟩ = some (.string a0_3) := (blk_cell BK144.out 3).trans rfl; have hfz26_0 := blk_frozen BK144.out 0; have hfz26_1 := blk_frozen BK144.out 1; have hfz26_2 := blk_frozen BK144.out 2; have hfz26_3 := blk_frozen BK144.out 3; have p18 : 0 ≤ (0 : Int) := (by omega); have q18 : 0 < a0_3.size := (by have : (0 : Int) < (a0_3.size : Int) := of_decide_eq_true (by first | (with_reducible assumption) | assumption); omega); have hx18 : ∀ h : 0 < a0_3.size, ((a0_3[0]'h).toNat : Int) = bt a0_3 0 := bt_at a0_3 0; clear p18; have qi18 : (0 < (a0_3.size : Int)) = True := eq_true (of_decide_eq_true (by first | (with_reducible assumption) | assumption)); replace q18 := eq_true q18))
            go_ret
            exact ⟨by first | rfl | (simp [errW_none, errW_some] <;> rfl) | (simp [*, errW_none, errW_some] <;> rfl) | ((generalize ByteArray.toList _ = z_); cases z_ <;> first | rfl | (simp; done)), bl⟩
           ·rw [if_neg c23] at H
            exact absurd H (by simp)
          ·rw [if_neg c22] at H
           exact absurd H (by simp)
         ·rw [if_neg c21] at H
          exact absurd H (by simp)
        ·rw [if_neg c20] at H
         exact absurd H (by simp)
       ·rw [if_neg c19] at H
        have c19b0 : ((bt a0_3 0) == 45) = false := beq_eq_false_iff_ne.mpr c19
        have c19b1 : ((bt a0_3 0) != 45) = true := bne_iff_ne.mpr c19
        by_cases c27 : x3_1.size + a0_2.size ≤ 9223372036854775807
        ·rw [if_pos c27] at H
         have c27b0 := eq_true c27
         have c27b1 : decide (x3_1.size + a0_2.size ≤ 9223372036854775807) = true := decide_eq_true c27
         try have c27b2 : (9223372036854775807 < x3_1.size + a0_2.size) = False := eq_false (Nat.not_lt.2 c27)
         by_cases c28 : (x3_1 ++ a0_2).size + 2 ≤ 9223372036854775807
         ·rw [if_pos c28] at H
          have c28b0 := eq_true c28
          have c28b1 : decide ((x3_1 ++ a0_2).size + 2 ≤ 9223372036854775807) = true := decide_eq_true c28
          try have c28b2 : (9223372036854775807 < (x3_1 ++ a0_2).size + 2) = False := eq_false (Nat.not_lt.2 c28)
          try have c28b3 : (9223372036854775807 < x3_1.size + a0_2.size + 2) = False := eq_false (Nat.not_lt.2 (by have z_ := c28; simp only [ByteArray.size_append, ByteArray.size_extract, Nat.min_self] at z_; exact z_))
          by_cases c29 : ((x3_1 ++ a0_2) ++ (⟨#[46, 101]⟩ : ByteArray)).size + 1 ≤ 9223372036854775807
          ·rw [if_pos c29] at H
           have c29b0 := eq_true c29
           have c29b1 : decide (((x3_1 ++ a0_2) ++ (⟨#[46, 101]⟩ : ByteArray)).size + 1 ≤ 9223372036854775807) = true := decide_eq_true c29
           try have c29b2 : (9223372036854775807 < ((x3_1 ++ a0_2) ++ (⟨#[46, 101]⟩ : ByteArray)).size + 1) = False := eq_false (Nat.not_lt.2 c29)
           try have c29b3 : (9223372036854775807 < x3_1.size + a0_2.size + 2 + 1) = False := eq_false (Nat.not_lt.2 (by have z_ := c29; simp only [ByteArray.size_append, ByteArray.size_extract, Nat.min_self] at z_; exact z_))
           by_cases c30 : (((x3_1 ++ a0_2) ++ (⟨#[46, 101]⟩ : ByteArray)) ++ (⟨#[43]⟩ : ByteArray)).size + a0_3.size ≤ 9223372036854775807
           ·rw [if_pos c30] at H
            have c30b0 := eq_true c30
            have c30b1 : decide ((((x3_1 ++ a0_2) ++ (⟨#[46, 101]⟩ : ByteArray)) ++ (⟨#[43]⟩ : ByteArray)).size + a0_3.size ≤ 9223372036854775807) = true := decide_eq_true c30
            try have c30b2 : (9223372036854775807 < (((x3_1 ++ a0_2) ++ (⟨#[46, 101]⟩ : ByteArray)) ++ (⟨#[43]⟩ : ByteArray)).size + a0_3.size) = False := eq_false (Nat.not_lt.2 c30)
            try have c30b3 : (9223372036854775807 < x3_1.size + a0_2.size + 2 + 1 + a0_3.size) = False := eq_false (Nat.not_lt.2 (by have z_ := c30; simp only [ByteArray.size_append, ByteArray.size_extract, Nat.min_self] at z_; exact z_))
            obtain rfl := Option.some.inj H
            have hcz31_0 : wc.cell? ⟨gb144, 0, none⟩ = some (.int .i64 a0_0) := (blk_cell BK144.out 0).trans rfl
            have hcz31_1 : wc.cell? ⟨gb144, 1, none⟩ = some (.bool a0_1) := (blk_cell BK144.out 1).trans rfl
            have hcz31_2 : wc.cell? ⟨gb144, 2, none⟩ = some (.string a0_2) := (blk_cell BK144.out 2).trans rfl
            have hcz31_3 : wc.cell? ⟨gb144, 3, none⟩ = some (.string a0_3) := (blk_cell BK144.out 3).trans rfl
            have hfz31_0 := blk_frozen BK144.out 0
            have hfz31_1 := blk_frozen BK144.out 1
            have hfz31_2 := blk_frozen BK144.out 2
            have hfz31_3 := blk_frozen BK144.out 3
            go_wp2_with (first | ((with_reducible refine gate_callee (f := 33) rfl ?_); refine goesL_ (some 9) rfl rfl Tryd.func33 (by kernel_rfl) rfl #[.agg #[.int .i64 a0_0, .bool a0_1, .string a0_2, .string a0_3]] rfl (by (try simp only [List.map_toArray, List.map_cons, List.map_nil]); first | done | rfl | (simp only [List.length_drop, List.length_take]; rfl)) ?_; (with_reducible refine (dec_Good.calls kj1 a0_0 a0_1 a0_2 a0_3 true _ A6.out).mono ?_); rintro e w32 ⟨rfl, hb⟩; refine ⟨_, rfl, ?_⟩; have n0_ := Aside0.mk (blk_below (g := gb144) (o := .cells #[.int .i64 a0_0, .bool a0_1, .string a0_2, .string a0_3] 40 (0, 0)) bk hb); have n1_ := Aside0.mk (below_step bl hb); clear BK144; clear HB; have BK144 := n0_; have HB := n1_; clear n0_ n1_; (try clear hb); (try clear hb2); (try clear hk); (try clear hi); have hcz33_0 : w32.cell? ⟨gb144, 0, none⟩ = some (.int .i64 a0_0) := (blk_cell BK144.out 0).trans rfl; have hcz33_1 : w32.cell? ⟨gb144, 1, none⟩ = some (.bool a0_1) := (blk_cell BK144.out 1).trans rfl; have hcz33_2 : w32.cell? ⟨gb144, 2, none⟩ = some (.string a0_2) := (blk_cell BK144.out 2).trans rfl; have hcz33_3 : w32.cell? ⟨gb144, 3, none⟩ = some (.string a0_3) := (blk_cell BK144.out 3).trans rfl; have hfz33_0 := blk_frozen BK144.out 0; have hfz33_1 := blk_frozen BK144.out 1; have hfz33_2 := blk_frozen BK144.out 2; have hfz33_3 := blk_frozen BK144.out 3; have p18 : 0 ≤ (0 : Int) := (by omega); have q18 : 0 < a0_3.size := (by have : (0 : Int) < (a0_3.size : Int) := of_decide_eq_true (by first | (with_reducible assumption) | assumption); omega); have hx18 : ∀ h : 0 < a0_3.size, ((a0_3[0]'h).toNat : Int) = bt a0_3 0 := bt_at a0_3 0; clear p18; have qi18 : (0 < (a0_3.size : Int)) = True := eq_true (of_decide_eq_true (by first | (with_reducible assumption) | assumption)); replace q18 := eq_true q18))
            go_ret
            exact ⟨by first | rfl | (simp [errW_none, errW_some] <;> rfl) | (simp [*, errW_none, errW_some] <;> rfl) | ((generalize ByteArray.toList _ = z_); cases z_ <;> first | rfl | (simp; done)), bl⟩
           ·rw [if_neg c30] at H
            exact absurd H (by simp)
          ·rw [if_neg c29] at H
           exact absurd H (by simp)
         ·rw [if_neg c28] at H
          exact absurd H (by simp)
        ·rw [if_neg c27] at H
         exact absurd H (by simp)
      ·rw [if_neg c17] at H
       exact absurd H (by simp)
   ·replace c7 := Bool.eq_false_iff.mpr c7
    subst c7
    have H1 : (some (⟨#[]⟩ : ByteArray)) = some r := by rw [if_neg (show ¬ (false = true) by decide)] at H; exact H
    clear H
    have H := H1
    clear H1
    obtain rfl := Option.some.inj H
    have hcz34_0 : wc.cell? ⟨gb144, 0, none⟩ = some (.int .i64 a0_0) := (blk_cell BK144.out 0).trans rfl
    have hcz34_1 : wc.cell? ⟨gb144, 1, none⟩ = some (.bool a0_1) := (blk_cell BK144.out 1).trans rfl
    have hcz34_2 : wc.cell? ⟨gb144, 2, none⟩ = some (.string a0_2) := (blk_cell BK144.out 2).trans rfl
    have hcz34_3 : wc.cell? ⟨gb144, 3, none⟩ = some (.string a0_3) := (blk_cell BK144.out 3).trans rfl
    have hfz34_0 := blk_frozen BK144.out 0
    have hfz34_1 := blk_frozen BK144.out 1
    have hfz34_2 := blk_frozen BK144.out 2
    have hfz34_3 := blk_frozen BK144.out 3
    go_wp2_with (first | ((with_reducible refine gate_callee (f := 33) rfl ?_); refine goesL_ (some 9) rfl rfl Tryd.func33 (by kernel_rfl) rfl #[.agg #[.int .i64 a0_0, .bool a0_1, .string a0_2, .string a0_3]] rfl (by (try simp only [List.map_toArray, List.map_cons, List.map_nil]); first | done | rfl | (simp only [List.length_drop, List.length_take]; rfl)) ?_; (with_reducible refine (dec_Good.calls kj1 a0_0 a0_1 a0_2 a0_3 false _ A6.out).mono ?_); rintro e w35 ⟨rfl, hb⟩; refine ⟨_, rfl, ?_⟩; have n0_ := Aside0.mk (blk_below (g := gb144) (o := .cells #[.int .i64 a0_0, .bool a0_1, .string a0_2, .string a0_3] 40 (0, 0)) bk hb); have n1_ := Aside0.mk (below_step bl hb); clear BK144; clear HB; have BK144 := n0_; have HB := n1_; clear n0_ n1_; (try clear hb); (try clear hb2); (try clear hk); (try clear hi)))
    go_ret
    exact ⟨by first | rfl | (simp [errW_none, errW_some] <;> rfl) | (simp [*, errW_none, errW_some] <;> rfl) | ((generalize ByteArray.toList _ = z_); cases z_ <;> first | rfl | (simp; done)), bl⟩

/-! ### stringslite_Index: function 84 -/

def stringslite_Index.f (a0 : ByteArray) (a1 : ByteArray) : Option (Int) := if a0.size < 4294967281 then some (Lib.index a0.data.toList a1.data.toList) else none
theorem stringslite_Index.calls (a0 : ByteArray) (a1 : ByteArray) (r : Int) (w : World) (hG : Go.Proofs.YtddaggnomcoejaaDoor.PDT.Tabs w) (h : stringslite_Index.f a0 a1 = some r) :
  Calls Tryd.prog 84 #[.string a0, .string a1] w fun e w' => e = .returned (.int .i64 r) ∧ Below w.heap.size w w' := by
 unfold stringslite_Index.f at h
 split at h
 ·rename_i hc
  obtain rfl := Option.some.inj h
  obtain ⟨m, hm⟩ := hG.max
  refine (Tryd.stringslite_Index a0 a1 m w hc hm).mono ?_
  rintro e w' ⟨rfl, rfl⟩
  exact ⟨rfl, Below.refl _ _⟩
 ·cases h

end Go.Proofs.YtddaggnomcoejaaDoor.PD
