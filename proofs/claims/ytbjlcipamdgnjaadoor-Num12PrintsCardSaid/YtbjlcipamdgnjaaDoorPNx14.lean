/- Written by this session's own program (xprint, made over the kit's print): Lean functions with the same answers as the Go functions, and the proofs of that. Not trusted: Lean checks it. -/
import Derived.Test.YtbjlcipamdgnjaaDoorPNx0
import Derived.Test.YtbjlcipamdgnjaaDoorPNx13
import Derived.Test.YtbjlcipamdgnjaaDoorXW
namespace Go.Proofs.YtbjlcipamdgnjaaDoor.PN
open Go.Proofs.YtbjlcipamdgnjaaDoor.XW Go.RowKit Go.Proofs.YtbjlcipamdgnjaaDoorW.PrintWords Go.Proofs.YtbjlcipamdgnjaaDoorW.PrintLast Go.Proofs.YtbjlcipamdgnjaaDoorW.PrintMore
attribute [local go_sem] max2_int min2_int max_two min_two max_three min_three max_four min_four   -- for this text's walks alone
set_option linter.unusedVariables false
set_option linter.unusedSimpArgs false

/-! ### targumref4_Print: function 16 -/
def targumref4_Print.j0 : Nat → ByteArray → Int → Bool → ByteArray → ByteArray → Option (ByteArray)
 | 0, _, _, _, _, _ => none
 | k + 1, x3, x328000, x328001, x328002, x328003 => (targumref4_Dec.f k x328000 x328001 x328002 x328003).bind fun t328 => (if t328 = true then (if x328000 = 1 then (if x3.size + 4 ≤ 9223372036854775807 then (some (x3 ++ (⟨#[46, 105, 110, 102]⟩ : ByteArray))) else (none)) else (if x328000 = 2 then (some (⟨#[46, 110, 97, 110]⟩ : ByteArray)) else (if 0 < (x328003.size : Int) then (if (bt x328003 0) = 45 then (if x3.size + x328002.size ≤ 9223372036854775807 then (if (x3 ++ x328002).size + 2 ≤ 9223372036854775807 then (if ((x3 ++ x328002) ++ (⟨#[46, 101]⟩ : ByteArray)).size + x328003.size ≤ 9223372036854775807 then (some (((x3 ++ x328002) ++ (⟨#[46, 101]⟩ : ByteArray)) ++ x328003)) else (none)) else (none)) else (none)) else (if x3.size + x328002.size ≤ 9223372036854775807 then (if (x3 ++ x328002).size + 3 ≤ 9223372036854775807 then (if ((x3 ++ x328002) ++ (⟨#[46, 101, 43]⟩ : ByteArray)).size + x328003.size ≤ 9223372036854775807 then (some (((x3 ++ x328002) ++ (⟨#[46, 101, 43]⟩ : ByteArray)) ++ x328003)) else (none)) else (none)) else (none))) else (none)))) else (some (⟨#[]⟩ : ByteArray)))
def targumref4_Print.f (k : Nat) (a0_0 : Int) (a0_1 : Bool) (a0_2 : ByteArray) (a0_3 : ByteArray) : Option (ByteArray) := if a0_1 = true then (targumref4_Print.j0 k (⟨#[45]⟩ : ByteArray) a0_0 a0_1 a0_2 a0_3) else (targumref4_Print.j0 k (⟨#[]⟩ : ByteArray) a0_0 a0_1 a0_2 a0_3)
theorem targumref4_Print.mono_l : ∀ k, (∀ y0 y1 y2 y3 y4, LeO (targumref4_Print.j0 k y0 y1 y2 y3 y4) (targumref4_Print.j0 (k + 1) y0 y1 y2 y3 y4))
 | 0 => fun _ _ _ _ _ r h => by simp [targumref4_Print.j0] at h
 | k + 1 => by
  have ih0 := targumref4_Print.mono_l k
  ·intro y0 y1 y2 y3 y4
   unfold targumref4_Print.j0
   repeat' first
   | (with_reducible exact ih0 _ _ _ _ _)
   | (with_reducible exact targumref4_Dec.mono _ _ _ _ _)
   | (with_reducible exact LeO.refl _)
   | (with_reducible exact LeO.none _)
   | (with_reducible refine LeO.ite ?_ ?_)
   | (with_reducible refine LeO.bind ?_ (fun _ => ?_))
   | exact ih0 _ _ _ _ _
   | exact targumref4_Dec.mono _ _ _ _ _
   | exact LeO.none _
   | refine LeO.ite ?_ ?_
   | refine LeO.bind ?_ (fun _ => ?_)
theorem targumref4_Print.mono : ∀ a0 a1 a2 a3 k, LeO (targumref4_Print.f k a0 a1 a2 a3) (targumref4_Print.f (k + 1) a0 a1 a2 a3) := by
 intro a0 a1 a2 a3 k
 have ih0 := targumref4_Print.mono_l k
 unfold targumref4_Print.f
 repeat' first
   | (with_reducible exact ih0 _ _ _ _ _)
   | (with_reducible exact targumref4_Dec.mono _ _ _ _ _)
   | (with_reducible exact LeO.refl _)
   | (with_reducible exact LeO.none _)
   | (with_reducible refine LeO.ite ?_ ?_)
   | (with_reducible refine LeO.bind ?_ (fun _ => ?_))
   | exact ih0 _ _ _ _ _
   | exact targumref4_Dec.mono _ _ _ _ _
   | exact LeO.none _
   | refine LeO.ite ?_ ?_
   | refine LeO.bind ?_ (fun _ => ?_)
set_option maxHeartbeats 40000000 in
set_option maxRecDepth 100000 in
theorem targumref4_Print.calls (k : Nat) (a0_0 : Int) (a0_1 : Bool) (a0_2 : ByteArray) (a0_3 : ByteArray) (r : ByteArray) (w : World) (h : targumref4_Print.f k a0_0 a0_1 a0_2 a0_3 = some r) :
  Calls Tryd.prog 16 #[.agg #[.int .i64 a0_0, .bool a0_1, .string a0_2, .string a0_3]] w fun e w' => e = .returned (.string r) ∧ Below w.heap.size w w' := by
 have hu28 := Tryd.underlying28
 have HB := Aside0.mk (Below.refl w.heap.size w)
 have H : (if a0_1 = true then (targumref4_Print.j0 k (⟨#[45]⟩ : ByteArray) a0_0 a0_1 a0_2 a0_3) else (targumref4_Print.j0 k (⟨#[]⟩ : ByteArray) a0_0 a0_1 a0_2 a0_3)) = some r := h
 clear h
 have HC2 := Aside0.mk H
 clear H
 go_enter Tryd.func16, Tryd.ntmps16
 go_upto_if 5 with (first | ((with_reducible refine gate_dst (N := 1) rfl ?_); refine box_event ?hg (N := 1) ?hd (cs := #[.int .i64 a0_0, .bool a0_1, .string a0_2, .string a0_3]) (t := 28) ?hr ?_; (case hd => rfl); (case hg => rfl); (case hr => first | (go_simp; done) | (go_simp; rfl)); intro gb327 hg w3 hbox hb; have n0_ := Aside0.mk (below_step bl hb); have n1_ := Aside0.mk (hbox); have n2_ := Aside0.mk ((by rw [hg]; exact (below_size bl) : w.heap.size ≤ gb327)); have n3_ := Aside0.mk ((by rw [hg]; exact (below_size bl) : w.heap.size ≤ gb327)); clear HB; have HB := n0_; have BK327 := n1_; have GW327 := n2_; have GE327 := n3_; clear n0_ n1_ n2_ n3_; clear hb hbox hg; have hcz4_0 : w3.cell? ⟨gb327, 0, none⟩ = some (.int .i64 a0_0) := (blk_cell BK327.out 0).trans rfl; have hcz4_1 : w3.cell? ⟨gb327, 1, none⟩ = some (.bool a0_1) := (blk_cell BK327.out 1).trans rfl; have hcz4_2 : w3.cell? ⟨gb327, 2, none⟩ = some (.string a0_2) := (blk_cell BK327.out 2).trans rfl; have hcz4_3 : w3.cell? ⟨gb327, 3, none⟩ = some (.string a0_3) := (blk_cell BK327.out 3).trans rfl; have hfz4_0 := blk_frozen BK327.out 0; have hfz4_1 := blk_frozen BK327.out 1; have hfz4_2 := blk_frozen BK327.out 2; have hfz4_3 := blk_frozen BK327.out 3))
 (try simp only [Act.put, List.setIfInBounds_toArray, List.set_cons_zero, List.set_cons_succ])
 go_cut [3] (fun v3 wc => ∃ (kq : Nat) (x3_1 : ByteArray), v3 = .string x3_1 ∧ Aside0 (targumref4_Print.j0 kq x3_1 a0_0 a0_1 a0_2 a0_3 = some r) ∧ Aside0 (kq ≤ k) ∧ Aside0 (wc.heap[gb327]? = some (.cells #[.int .i64 a0_0, .bool a0_1, .string a0_2, .string a0_3] 28 (0, 0))) ∧ Aside0 (Below w.heap.size w wc))
 case first =>
  have H := HC2.out
  clear HC2
  by_cases c5 : a0_1 = true
  ·subst c5
   have H1 : (targumref4_Print.j0 k (⟨#[45]⟩ : ByteArray) a0_0 true a0_2 a0_3) = some r := by rw [if_pos rfl] at H; exact H
   clear H
   have H := H1
   clear H1
   have H' := Aside0.mk H
   clear H
   go_wp2
   go_meet
   case rel => exact ⟨_, ((⟨#[45]⟩ : ByteArray)), (by first | rfl | (simp; done) | (simp [*]; done) | (simp [wrap64]; done)), H', ⟨by first | omega | exact Nat.le_refl _⟩, ⟨by (with_reducible repeat (first | refine blk_drewN ?_ _ | refine blk_drew ?_ | refine blk_alloc ?_ _)); exact BK327.out⟩, ⟨bl⟩⟩
  ·replace c5 := Bool.eq_false_iff.mpr c5
   subst c5
   have H1 : (targumref4_Print.j0 k (⟨#[]⟩ : ByteArray) a0_0 false a0_2 a0_3) = some r := by rw [if_neg (show ¬ (false = true) by decide)] at H; exact H
   clear H
   have H := H1
   clear H1
   have H' := Aside0.mk H
   clear H
   go_wp2
   go_meet
   case rel => exact ⟨_, ((⟨#[]⟩ : ByteArray)), (by first | rfl | (simp; done) | (simp [*]; done) | (simp [wrap64]; done)), H', ⟨by first | omega | exact Nat.le_refl _⟩, ⟨by (with_reducible repeat (first | refine blk_drewN ?_ _ | refine blk_drew ?_ | refine blk_alloc ?_ _)); exact BK327.out⟩, ⟨bl⟩⟩
 case rest =>
  clear HC2
  try clear c1; try clear p2; try clear c5; try clear hcz4_0; try clear hcz4_1; try clear hcz4_2; try clear hcz4_3; try clear hfz4_0; try clear hfz4_1; try clear hfz4_2; try clear hfz4_3
  obtain ⟨kq, x3_1, rfl, HA, HJ1, BK327, HB⟩ := hcut
  cases kq with
  | zero => exact absurd HA.out (by simp [targumref4_Print.j0])
  | succ kj1 =>
   have H := HA.out
   clear HA
   simp only [targumref4_Print.j0] at H
   replace H := Option.bind_eq_some_iff.mp H
   obtain ⟨t328, A60, H⟩ := H
   replace H : (if t328 = true then (if a0_0 = 1 then (if x3_1.size + 4 ≤ 9223372036854775807 then (some (x3_1 ++ (⟨#[46, 105, 110, 102]⟩ : ByteArray))) else (none)) else (if a0_0 = 2 then (some (⟨#[46, 110, 97, 110]⟩ : ByteArray)) else (if 0 < (a0_3.size : Int) then (if (bt a0_3 0) = 45 then (if x3_1.size + a0_2.size ≤ 9223372036854775807 then (if (x3_1 ++ a0_2).size + 2 ≤ 9223372036854775807 then (if ((x3_1 ++ a0_2) ++ (⟨#[46, 101]⟩ : ByteArray)).size + a0_3.size ≤ 9223372036854775807 then (some (((x3_1 ++ a0_2) ++ (⟨#[46, 101]⟩ : ByteArray)) ++ a0_3)) else (none)) else (none)) else (none)) else (if x3_1.size + a0_2.size ≤ 9223372036854775807 then (if (x3_1 ++ a0_2).size + 3 ≤ 9223372036854775807 then (if ((x3_1 ++ a0_2) ++ (⟨#[46, 101, 43]⟩ : ByteArray)).size + a0_3.size ≤ 9223372036854775807 then (some (((x3_1 ++ a0_2) ++ (⟨#[46, 101, 43]⟩ : ByteArray)) ++ a0_3)) else (none)) else (none)) else (none))) else (none)))) else (some (⟨#[]⟩ : ByteArray))) = some r := H
   have A6 := Aside0.mk A60
   clear A60
   by_cases c7 : t328 = true
   ·subst c7
    have H1 : (if a0_0 = 1 then (if x3_1.size + 4 ≤ 9223372036854775807 then (some (x3_1 ++ (⟨#[46, 105, 110, 102]⟩ : ByteArray))) else (none)) else (if a0_0 = 2 then (some (⟨#[46, 110, 97, 110]⟩ : ByteArray)) else (if 0 < (a0_3.size : Int) then (if (bt a0_3 0) = 45 then (if x3_1.size + a0_2.size ≤ 9223372036854775807 then (if (x3_1 ++ a0_2).size + 2 ≤ 9223372036854775807 then (if ((x3_1 ++ a0_2) ++ (⟨#[46, 101]⟩ : ByteArray)).size + a0_3.size ≤ 9223372036854775807 then (some (((x3_1 ++ a0_2) ++ (⟨#[46, 101]⟩ : ByteArray)) ++ a0_3)) else (none)) else (none)) else (none)) else (if x3_1.size + a0_2.size ≤ 9223372036854775807 then (if (x3_1 ++ a0_2).size + 3 ≤ 9223372036854775807 then (if ((x3_1 ++ a0_2) ++ (⟨#[46, 101, 43]⟩ : ByteArray)).size + a0_3.size ≤ 9223372036854775807 then (some (((x3_1 ++ a0_2) ++ (⟨#[46, 101, 43]⟩ : ByteArray)) ++ a0_3)) else (none)) else (none)) else (none))) else (none)))) = some r := by rw [if_pos rfl] at H; exact H
    clear H
    have H := H1
    clear H1
    by_cases c8 : a0_0 = 1
    ·rw [if_pos c8] at H
     have c8b0 : (a0_0 == 1) = true := beq_iff_eq.mpr c8
     have c8b1 : (a0_0 != 1) = false := bne_eq_false_iff_eq.mpr c8
     clear c8
     by_cases c9 : x3_1.size + 4 ≤ 9223372036854775807
     ·rw [if_pos c9] at H
      have c9b0 := eq_true c9
      have c9b1 : decide (x3_1.size + 4 ≤ 9223372036854775807) = true := decide_eq_true c9
      try have c9b2 : (9223372036854775807 < x3_1.size + 4) = False := eq_false (Nat.not_lt.2 c9)
      obtain rfl := Option.some.inj H
      have hcz10_0 : wc.cell? ⟨gb327, 0, none⟩ = some (.int .i64 a0_0) := (blk_cell BK327.out 0).trans rfl
      have hcz10_1 : wc.cell? ⟨gb327, 1, none⟩ = some (.bool a0_1) := (blk_cell BK327.out 1).trans rfl
      have hcz10_2 : wc.cell? ⟨gb327, 2, none⟩ = some (.string a0_2) := (blk_cell BK327.out 2).trans rfl
      have hcz10_3 : wc.cell? ⟨gb327, 3, none⟩ = some (.string a0_3) := (blk_cell BK327.out 3).trans rfl
      have hfz10_0 := blk_frozen BK327.out 0
      have hfz10_1 := blk_frozen BK327.out 1
      have hfz10_2 := blk_frozen BK327.out 2
      have hfz10_3 := blk_frozen BK327.out 3
      go_wp2_with (first | ((with_reducible refine gate_callee (f := 38) rfl ?_); refine goesL_ (some 8) rfl rfl Tryd.func38 (by kernel_rfl) rfl #[.agg #[.int .i64 a0_0, .bool a0_1, .string a0_2, .string a0_3]] rfl (by (try simp only [List.map_toArray, List.map_cons, List.map_nil]); first | done | rfl | (simp only [List.length_drop, List.length_take]; rfl)) ?_; (with_reducible refine (targumref4_Dec.calls kj1 a0_0 a0_1 a0_2 a0_3 true _ A6.out).mono ?_); rintro e w11 ⟨rfl, hb⟩; refine ⟨_, rfl, ?_⟩; have n0_ := Aside0.mk (blk_below (g := gb327) (o := .cells #[.int .i64 a0_0, .bool a0_1, .string a0_2, .string a0_3] 28 (0, 0)) bk hb); have n1_ := Aside0.mk (below_step bl hb); clear BK327; clear HB; have BK327 := n0_; have HB := n1_; clear n0_ n1_; (try clear hb); (try clear hb2); (try clear hk); (try clear hi); have hcz12_0 : w11.cell? ⟨gb327, 0, none⟩ = some (.int .i64 a0_0) := (blk_cell BK327.out 0).trans rfl; have hcz12_1 : w11.cell? ⟨gb327, 1, none⟩ = some (.bool a0_1) := (blk_cell BK327.out 1).trans rfl; have hcz12_2 : w11.cell? ⟨gb327, 2, none⟩ = some (.string a0_2) := (blk_cell BK327.out 2).trans rfl; have hcz12_3 : w11.cell? ⟨gb327, 3, none⟩ = some (.string a0_3) := (blk_cell BK327.out 3).trans rfl; have hfz12_0 := blk_frozen BK327.out 0; have hfz12_1 := blk_frozen BK327.out 1; have hfz12_2 := blk_frozen BK327.out 2; have hfz12_3 := blk_frozen BK327.out 3))
      go_ret
      exact ⟨by first | rfl | (simp [errW_none, errW_some] <;> rfl) | (simp [*, errW_none, errW_some] <;> rfl), bl⟩
     ·rw [if_neg c9] at H
      exact absurd H (by simp)
    ·rw [if_neg c8] at H
     have c8b0 : (a0_0 == 1) = false := beq_eq_false_iff_ne.mpr c8
     have c8b1 : (a0_0 != 1) = true := bne_iff_ne.mpr c8
     by_cases c13 : a0_0 = 2
     ·rw [if_pos c13] at H
      have c13b0 : (a0_0 == 2) = true := beq_iff_eq.mpr c13
      have c13b1 : (a0_0 != 2) = false := bne_eq_false_iff_eq.mpr c13
      clear c13
      obtain rfl := Option.some.inj H
      have hcz14_0 : wc.cell? ⟨gb327, 0, none⟩ = some (.int .i64 a0_0) := (blk_cell BK327.out 0).trans rfl
      have hcz14_1 : wc.cell? ⟨gb327, 1, none⟩ = some (.bool a0_1) := (blk_cell BK327.out 1).trans rfl
      have hcz14_2 : wc.cell? ⟨gb327, 2, none⟩ = some (.string a0_2) := (blk_cell BK327.out 2).trans rfl
      have hcz14_3 : wc.cell? ⟨gb327, 3, none⟩ = some (.string a0_3) := (blk_cell BK327.out 3).trans rfl
      have hfz14_0 := blk_frozen BK327.out 0
      have hfz14_1 := blk_frozen BK327.out 1
      have hfz14_2 := blk_frozen BK327.out 2
      have hfz14_3 := blk_frozen BK327.out 3
      go_wp2_with (first | ((with_reducible refine gate_callee (f := 38) rfl ?_); refine goesL_ (some 8) rfl rfl Tryd.func38 (by kernel_rfl) rfl #[.agg #[.int .i64 a0_0, .bool a0_1, .string a0_2, .string a0_3]] rfl (by (try simp only [List.map_toArray, List.map_cons, List.map_nil]); first | done | rfl | (simp only [List.length_drop, List.length_take]; rfl)) ?_; (with_reducible refine (targumref4_Dec.calls kj1 a0_0 a0_1 a0_2 a0_3 true _ A6.out).mono ?_); rintro e w15 ⟨rfl, hb⟩; refine ⟨_, rfl, ?_⟩; have n0_ := Aside0.mk (blk_below (g := gb327) (o := .cells #[.int .i64 a0_0, .bool a0_1, .string a0_2, .string a0_3] 28 (0, 0)) bk hb); have n1_ := Aside0.mk (below_step bl hb); clear BK327; clear HB; have BK327 := n0_; have HB := n1_; clear n0_ n1_; (try clear hb); (try clear hb2); (try clear hk); (try clear hi); have hcz16_0 : w15.cell? ⟨gb327, 0, none⟩ = some (.int .i64 a0_0) := (blk_cell BK327.out 0).trans rfl; have hcz16_1 : w15.cell? ⟨gb327, 1, none⟩ = some (.bool a0_1) := (blk_cell BK327.out 1).trans rfl; have hcz16_2 : w15.cell? ⟨gb327, 2, none⟩ = some (.string a0_2) := (blk_cell BK327.out 2).trans rfl; have hcz16_3 : w15.cell? ⟨gb327, 3, none⟩ = some (.string a0_3) := (blk_cell BK327.out 3).trans rfl; have hfz16_0 := blk_frozen BK327.out 0; have hfz16_1 := blk_frozen BK327.out 1; have hfz16_2 := blk_frozen BK327.out 2; have hfz16_3 := blk_frozen BK327.out 3))
      go_ret
      exact ⟨by first | rfl | (simp [errW_none, errW_some] <;> rfl) | (simp [*, errW_none, errW_some] <;> rfl), bl⟩
     ·rw [if_neg c13] at H
      have c13b0 : (a0_0 == 2) = false := beq_eq_false_iff_ne.mpr c13
      have c13b1 : (a0_0 != 2) = true := bne_iff_ne.mpr c13
      by_cases c17 : 0 < (a0_3.size : Int)
      ·rw [if_pos c17] at H
       have c17b0 : decide (0 < (a0_3.size : Int)) = true := decide_eq_true c17
       have c17b1 : decide (0 < a0_3.size) = true := decide_eq_true (by omega)
       clear c17
       by_cases c19 : (bt a0_3 0) = 45
       ·rw [if_pos c19] at H
        have c19b0 : ((bt a0_3 0) == 45) = true := beq_iff_eq.mpr c19
        have c19b1 : ((bt a0_3 0) != 45) = false := bne_eq_false_iff_eq.mpr c19
        clear c19
        by_cases c20 : x3_1.size + a0_2.size ≤ 9223372036854775807
        ·rw [if_pos c20] at H
         have c20b0 := eq_true c20
         have c20b1 : decide (x3_1.size + a0_2.size ≤ 9223372036854775807) = true := decide_eq_true c20
         try have c20b2 : (9223372036854775807 < x3_1.size + a0_2.size) = False := eq_false (Nat.not_lt.2 c20)
         by_cases c21 : (x3_1 ++ a0_2).size + 2 ≤ 9223372036854775807
         ·rw [if_pos c21] at H
          have c21b0 := eq_true c21
          have c21b1 : decide ((x3_1 ++ a0_2).size + 2 ≤ 9223372036854775807) = true := decide_eq_true c21
          try have c21b2 : (9223372036854775807 < (x3_1 ++ a0_2).size + 2) = False := eq_false (Nat.not_lt.2 c21)
          try have c21b3 : (9223372036854775807 < x3_1.size + a0_2.size + 2) = False := eq_false (Nat.not_lt.2 (by have z_ := c21; simp only [ByteArray.size_append, ByteArray.size_extract, Nat.min_self] at z_; exact z_))
          by_cases c22 : ((x3_1 ++ a0_2) ++ (⟨#[46, 101]⟩ : ByteArray)).size + a0_3.size ≤ 9223372036854775807
          ·rw [if_pos c22] at H
           have c22b0 := eq_true c22
           have c22b1 : decide (((x3_1 ++ a0_2) ++ (⟨#[46, 101]⟩ : ByteArray)).size + a0_3.size ≤ 9223372036854775807) = true := decide_eq_true c22
           try have c22b2 : (9223372036854775807 < ((x3_1 ++ a0_2) ++ (⟨#[46, 101]⟩ : ByteArray)).size + a0_3.size) = False := eq_false (Nat.not_lt.2 c22)
           try have c22b3 : (9223372036854775807 < x3_1.size + a0_2.size + 2 + a0_3.size) = False := eq_false (Nat.not_lt.2 (by have z_ := c22; simp only [ByteArray.size_append, ByteArray.size_extract, Nat.min_self] at z_; exact z_))
           obtain rfl := Option.some.inj H
           have hcz23_0 : wc.cell? ⟨gb327, 0, none⟩ = some (.int .i64 a0_0) := (blk_cell BK327.out 0).trans rfl
           have hcz23_1 : wc.cell? ⟨gb327, 1, none⟩ = some (.bool a0_1) := (blk_cell BK327.out 1).trans rfl
           have hcz23_2 : wc.cell? ⟨gb327, 2, none⟩ = some (.string a0_2) := (blk_cell BK327.out 2).trans rfl
           have hcz23_3 : wc.cell? ⟨gb327, 3, none⟩ = some (.string a0_3) := (blk_cell BK327.out 3).trans rfl
           have hfz23_0 := blk_frozen BK327.out 0
           have hfz23_1 := blk_frozen BK327.out 1
           have hfz23_2 := blk_frozen BK327.out 2
           have hfz23_3 := blk_frozen BK327.out 3
           go_wp2_with (first | ((with_reducible refine gate_callee (f := 38) rfl ?_); refine goesL_ (some 8) rfl rfl Tryd.func38 (by kernel_rfl) rfl #[.agg #[.int .i64 a0_0, .bool a0_1, .string a0_2, .string a0_3]] rfl (by (try simp only [List.map_toArray, List.map_cons, List.map_nil]); first | done | rfl | (simp only [List.length_drop, List.length_take]; rfl)) ?_; (with_reducible refine (targumref4_Dec.calls kj1 a0_0 a0_1 a0_2 a0_3 true _ A6.out).mono ?_); rintro e w24 ⟨rfl, hb⟩; refine ⟨_, rfl, ?_⟩; have n0_ := Aside0.mk (blk_below (g := gb327) (o := .cells #[.int .i64 a0_0, .bool a0_1, .string a0_2, .string a0_3] 28 (0, 0)) bk hb); have n1_ := Aside0.mk (below_step bl hb); clear BK327; clear HB; have BK327 := n0_; have HB := n1_; clear n0_ n1_; (try clear hb); (try clear hb2); (try clear hk); (try clear hi); have hcz25_0 : w24.cell? ⟨gb327, 0, none⟩ = some (.int .i64 a0_0) := (blk_cell BK327.out 0).trans rfl; have hcz25_1 : w24.cell? ⟨gb327, 1, none⟩ = some (.bool a0_1) := (blk_cell BK327.out 1).trans rfl; have hcz25_2 : w24.cell? ⟨gb327, 2, none⟩ = some (.string a0_2) := (blk_cell BK327.out 2).trans rfl; have hcz25_3 : w24.cell? ⟨gb327, 3, none⟩ = some (.string a0_3) := (blk_cell BK327.out 3).trans rfl; have hfz25_0 := blk_frozen BK327.out 0; have hfz25_1 := blk_frozen BK327.out 1; have hfz25_2 := blk_frozen BK327.out 2; have hfz25_3 := blk_frozen BK327.out 3; have p18 : 0 ≤ (0 : Int) := (by omega); have q18 : 0 < a0_3.size := (by have : (0 : Int) < (a0_3.size : Int) := of_decide_eq_true (by first | (with_reducible assumption) | assumption); omega); have hx18 : ∀ h : 0 < a0_3.size, ((a0_3[0]'h).toNat : Int) = bt a0_3 0 := bt_at a0_3 0; clear p18; have qi18 : (0 < (a0_3.size : Int)) = True := eq_true (of_decide_eq_true (by first | (with_reducible assumption) | assumption)); replace q18 := eq_true q18))
           go_ret
           exact ⟨by first | rfl | (simp [errW_none, errW_some] <;> rfl) | (simp [*, errW_none, errW_some] <;> rfl), bl⟩
          ·rw [if_neg c22] at H
           exact absurd H (by simp)
         ·rw [if_neg c21] at H
          exact absurd H (by simp)
        ·rw [if_neg c20] at H
         exact absurd H (by simp)
       ·rw [if_neg c19] at H
        have c19b0 : ((bt a0_3 0) == 45) = false := beq_eq_false_iff_ne.mpr c19
        have c19b1 : ((bt a0_3 0) != 45) = true := bne_iff_ne.mpr c19
        by_cases c26 : x3_1.size + a0_2.size ≤ 9223372036854775807
        ·rw [if_pos c26] at H
         have c26b0 := eq_true c26
         have c26b1 : decide (x3_1.size + a0_2.size ≤ 9223372036854775807) = true := decide_eq_true c26
         try have c26b2 : (9223372036854775807 < x3_1.size + a0_2.size) = False := eq_false (Nat.not_lt.2 c26)
         by_cases c27 : (x3_1 ++ a0_2).size + 3 ≤ 9223372036854775807
         ·rw [if_pos c27] at H
          have c27b0 := eq_true c27
          have c27b1 : decide ((x3_1 ++ a0_2).size + 3 ≤ 9223372036854775807) = true := decide_eq_true c27
          try have c27b2 : (9223372036854775807 < (x3_1 ++ a0_2).size + 3) = False := eq_false (Nat.not_lt.2 c27)
          try have c27b3 : (9223372036854775807 < x3_1.size + a0_2.size + 3) = False := eq_false (Nat.not_lt.2 (by have z_ := c27; simp only [ByteArray.size_append, ByteArray.size_extract, Nat.min_self] at z_; exact z_))
          by_cases c28 : ((x3_1 ++ a0_2) ++ (⟨#[46, 101, 43]⟩ : ByteArray)).size + a0_3.size ≤ 9223372036854775807
          ·rw [if_pos c28] at H
           have c28b0 := eq_true c28
           have c28b1 : decide (((x3_1 ++ a0_2) ++ (⟨#[46, 101, 43]⟩ : ByteArray)).size + a0_3.size ≤ 9223372036854775807) = true := decide_eq_true c28
           try have c28b2 : (9223372036854775807 < ((x3_1 ++ a0_2) ++ (⟨#[46, 101, 43]⟩ : ByteArray)).size + a0_3.size) = False := eq_false (Nat.not_lt.2 c28)
           try have c28b3 : (9223372036854775807 < x3_1.size + a0_2.size + 3 + a0_3.size) = False := eq_false (Nat.not_lt.2 (by have z_ := c28; simp only [ByteArray.size_append, ByteArray.size_extract, Nat.min_self] at z_; exact z_))
           obtain rfl := Option.some.inj H
           have hcz29_0 : wc.cell? ⟨gb327, 0, none⟩ = some (.int .i64 a0_0) := (blk_cell BK327.out 0).trans rfl
           have hcz29_1 : wc.cell? ⟨gb327, 1, none⟩ = some (.bool a0_1) := (blk_cell BK327.out 1).trans rfl
           have hcz29_2 : wc.cell? ⟨gb327, 2, none⟩ = some (.string a0_2) := (blk_cell BK327.out 2).trans rfl
           have hcz29_3 : wc.cell? ⟨gb327, 3, none⟩ = some (.string a0_3) := (blk_cell BK327.out 3).trans rfl
           have hfz29_0 := blk_frozen BK327.out 0
           have hfz29_1 := blk_frozen BK327.out 1
           have hfz29_2 := blk_frozen BK327.out 2
           have hfz29_3 := blk_frozen BK327.out 3
           go_wp2_with (first | ((with_reducible refine gate_callee (f := 38) rfl ?_); refine goesL_ (some 8) rfl rfl Tryd.func38 (by kernel_rfl) rfl #[.agg #[.int .i64 a0_0, .bool a0_1, .string a0_2, .string a0_3]] rfl (by (try simp only [List.map_toArray, List.map_cons, List.map_nil]); first | done | rfl | (simp only [List.length_drop, List.length_take]; rfl)) ?_; (with_reducible refine (targumref4_Dec.calls kj1 a0_0 a0_1 a0_2 a0_3 true _ A6.out).mono ?_); rintro e w30 ⟨rfl, hb⟩; refine ⟨_, rfl, ?_⟩; have n0_ := Aside0.mk (blk_below (g := gb327) (o := .cells #[.int .i64 a0_0, .bool a0_1, .string a0_2, .string a0_3] 28 (0, 0)) bk hb); have n1_ := Aside0.mk (below_step bl hb); clear BK327; clear HB; have BK327 := n0_; have HB := n1_; clear n0_ n1_; (try clear hb); (try clear hb2); (try clear hk); (try clear hi); have hcz31_0 : w30.cell? ⟨gb327, 0, none⟩ = some (.int .i64 a0_0) := (blk_cell BK327.out 0).trans rfl; have hcz31_1 : w30.cell? ⟨gb327, 1, none⟩ = some (.bool a0_1) := (blk_cell BK327.out 1).trans rfl; have hcz31_2 : w30.cell? ⟨gb327, 2, none⟩ = some (.string a0_2) := (blk_cell BK327.out 2).trans rfl; have hcz31_3 : w30.cell? ⟨gb327, 3, none⟩ = some (.string a0_3) := (blk_cell BK327.out 3).trans rfl; have hfz31_0 := blk_frozen BK327.out 0; have hfz31_1 := blk_frozen BK327.out 1; have hfz31_2 := blk_frozen BK327.out 2; have hfz31_3 := blk_frozen BK327.out 3; have p18 : 0 ≤ (0 : Int) := (by omega); have q18 : 0 < a0_3.size := (by have : (0 : Int) < (a0_3.size : Int) := of_decide_eq_true (by first | (with_reducible assumption) | assumption); omega); have hx18 : ∀ h : 0 < a0_3.size, ((a0_3[0]'h).toNat : Int) = bt a0_3 0 := bt_at a0_3 0; clear p18; have qi18 : (0 < (a0_3.size : Int)) = True := eq_true (of_decide_eq_true (by first | (with_reducible assumption) | assumption)); replace q18 := eq_true q18))
           go_ret
           exact ⟨by first | rfl | (simp [errW_none, errW_some] <;> rfl) | (simp [*, errW_none, errW_some] <;> rfl), bl⟩
          ·rw [if_neg c28] at H
           exact absurd H (by simp)
         ·rw [if_neg c27] at H
          exact absurd H (by simp)
        ·rw [if_neg c26] at H
         exact absurd H (by simp)
      ·rw [if_neg c17] at H
       exact absurd H (by simp)
   ·replace c7 := Bool.eq_false_iff.mpr c7
    subst c7
    have H1 : (some (⟨#[]⟩ : ByteArray)) = some r := by rw [if_neg (show ¬ (false = true) by decide)] at H; exact H
    clear H
    have H := H1
    clear H1
    obtain rfl := Option.some.inj H
    have hcz32_0 : wc.cell? ⟨gb327, 0, none⟩ = some (.int .i64 a0_0) := (blk_cell BK327.out 0).trans rfl
    have hcz32_1 : wc.cell? ⟨gb327, 1, none⟩ = some (.bool a0_1) := (blk_cell BK327.out 1).trans rfl
    have hcz32_2 : wc.cell? ⟨gb327, 2, none⟩ = some (.string a0_2) := (blk_cell BK327.out 2).trans rfl
    have hcz32_3 : wc.cell? ⟨gb327, 3, none⟩ = some (.string a0_3) := (blk_cell BK327.out 3).trans rfl
    have hfz32_0 := blk_frozen BK327.out 0
    have hfz32_1 := blk_frozen BK327.out 1
    have hfz32_2 := blk_frozen BK327.out 2
    have hfz32_3 := blk_frozen BK327.out 3
    go_wp2_with (first | ((with_reducible refine gate_callee (f := 38) rfl ?_); refine goesL_ (some 8) rfl rfl Tryd.func38 (by kernel_rfl) rfl #[.agg #[.int .i64 a0_0, .bool a0_1, .string a0_2, .string a0_3]] rfl (by (try simp only [List.map_toArray, List.map_cons, List.map_nil]); first | done | rfl | (simp only [List.length_drop, List.length_take]; rfl)) ?_; (with_reducible refine (targumref4_Dec.calls kj1 a0_0 a0_1 a0_2 a0_3 false _ A6.out).mono ?_); rintro e w33 ⟨rfl, hb⟩; refine ⟨_, rfl, ?_⟩; have n0_ := Aside0.mk (blk_below (g := gb327) (o := .cells #[.int .i64 a0_0, .bool a0_1, .string a0_2, .string a0_3] 28 (0, 0)) bk hb); have n1_ := Aside0.mk (below_step bl hb); clear BK327; clear HB; have BK327 := n0_; have HB := n1_; clear n0_ n1_; (try clear hb); (try clear hb2); (try clear hk); (try clear hi)))
    go_ret
    exact ⟨by first | rfl | (simp [errW_none, errW_some] <;> rfl) | (simp [*, errW_none, errW_some] <;> rfl), bl⟩

end Go.Proofs.YtbjlcipamdgnjaaDoor.PN
