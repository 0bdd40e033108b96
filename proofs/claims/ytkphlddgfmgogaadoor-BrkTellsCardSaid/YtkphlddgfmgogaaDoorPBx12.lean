/- Written by this session's own program (xprint, made over the kit's print): Lean functions with the same answers as the Go functions, and the proofs of that. Not trusted: Lean checks it. -/
import Derived.Test.YtkphlddgfmgogaaDoorPBx0
import Derived.Test.YtkphlddgfmgogaaDoorPBx2
import Derived.Test.YtkphlddgfmgogaaDoorPBx3
import Derived.Test.YtkphlddgfmgogaaDoorPBx4
import Derived.Test.YtkphlddgfmgogaaDoorPBx6
import Derived.Test.YtkphlddgfmgogaaDoorPBx7
import Derived.Test.YtkphlddgfmgogaaDoorPBx10
import Derived.Test.YtkphlddgfmgogaaDoorPBx11
import Derived.Test.YtkphlddgfmgogaaDoorPBx12m
import Derived.Test.YtkphlddgfmgogaaDoorXW
namespace Go.Proofs.YtkphlddgfmgogaaDoor.PB
open Go.Proofs.YtkphlddgfmgogaaDoor.XW Go.RowKit Go.Proofs.YtkphlddgfmgogaaDoorW.PrintWords Go.Proofs.YtkphlddgfmgogaaDoorW.PrintLast Go.Proofs.YtkphlddgfmgogaaDoorW.PrintMore
attribute [local go_sem] max2_int min2_int max_two min_two max_three min_three max_four min_four   -- for this text's walks alone
set_option linter.unusedVariables false
set_option linter.unusedSimpArgs false

set_option maxHeartbeats 8000000 in
set_option maxRecDepth 100000 in
theorem targumlaw2_BrkTells.calls (k : Nat) (a0 : ByteArray) (a1 : Int) (a2 : Int) (a3_0 : Int) (a3_1 : Int) (a3_2 : Int) (r : Bool) (w : World) (hG : Lib.Utf8Tabs 0 1 w) (h : targumlaw2_BrkTells.f k a0 a1 a2 a3_0 a3_1 a3_2 = some r) :
  Calls Tryd.prog 7 #[.string a0, .int .i64 a1, .int .i64 a2, .agg #[.int .i64 a3_0, .int .i64 a3_1, .int .i64 a3_2]] w fun e w' => e = .returned (.bool r) ∧ Below w.heap.size w w' := by
 have hu27 := Tryd.underlying27
 have HG := AM hG
 clear hG
 have HB := AM (Below.refl w.heap.size w)
 have H : ((targumlaw2_known.f k).bind fun t255 => (if t255 = true then (if (a0.size : Int) > 300 then (some true) else ((brk_Break.f k a1 a0 a2).bind fun t256 => ((targumref1_Break.f k a1 a0 a2).bind fun t257 => (if t256 = t257 then ((brk_May.f k a0 a2).bind fun t258 => ((targumref1_May.f k a0 a2).bind fun t259 => (if t258 = t259 then ((brk_Check.f k a0).bind fun t260 => ((targumref1_Check.f k a0).bind fun t261 => (if t260 = t261 then ((brk_Indent.f a0 a3_0 a3_1 a3_2).bind fun t262 => ((targumref1_Indent.f k a0 a3_0 a3_1 a3_2).bind fun t263 => (if t262 = t263 then ((brk_Blank.f a0 a3_0 a3_1 a3_2).bind fun t264 => ((targumref1_Blank.f k a0 a3_0 a3_1 a3_2).bind fun t265 => (if (t264 != t265) = true then (targumlaw2_BrkTells.j0 k a0 a1 true) else ((brk_Marker.f k a0 a3_0 a3_1 a3_2).bind fun t266 => ((targumref1_Marker.f k a0 a3_0 a3_1 a3_2).bind fun t267 => (targumlaw2_BrkTells.j0 k a0 a1 (t266 != t267))))))) else (targumlaw2_BrkTells.j0 k a0 a1 true)))) else (targumlaw2_BrkTells.j0 k a0 a1 true)))) else (targumlaw2_BrkTells.j0 k a0 a1 true)))) else (targumlaw2_BrkTells.j0 k a0 a1 true))))) else (some false))) = some r := h
 clear h
 replace H := Option.bind_eq_some_iff.mp H
 obtain ⟨t255, A50, H⟩ := H
 replace H : (if t255 = true then (if (a0.size : Int) > 300 then (some true) else ((brk_Break.f k a1 a0 a2).bind fun t256 => ((targumref1_Break.f k a1 a0 a2).bind fun t257 => (if t256 = t257 then ((brk_May.f k a0 a2).bind fun t258 => ((targumref1_May.f k a0 a2).bind fun t259 => (if t258 = t259 then ((brk_Check.f k a0).bind fun t260 => ((targumref1_Check.f k a0).bind fun t261 => (if t260 = t261 then ((brk_Indent.f a0 a3_0 a3_1 a3_2).bind fun t262 => ((targumref1_Indent.f k a0 a3_0 a3_1 a3_2).bind fun t263 => (if t262 = t263 then ((brk_Blank.f a0 a3_0 a3_1 a3_2).bind fun t264 => ((targumref1_Blank.f k a0 a3_0 a3_1 a3_2).bind fun t265 => (if (t264 != t265) = true then (targumlaw2_BrkTells.j0 k a0 a1 true) else ((brk_Marker.f k a0 a3_0 a3_1 a3_2).bind fun t266 => ((targumref1_Marker.f k a0 a3_0 a3_1 a3_2).bind fun t267 => (targumlaw2_BrkTells.j0 k a0 a1 (t266 != t267))))))) else (targumlaw2_BrkTells.j0 k a0 a1 true)))) else (targumlaw2_BrkTells.j0 k a0 a1 true)))) else (targumlaw2_BrkTells.j0 k a0 a1 true)))) else (targumlaw2_BrkTells.j0 k a0 a1 true))))) else (some false)) = some r := H
 have A5 := AM A50
 clear A50
 by_cases c6 : t255 = true
 ·subst c6
  have H1 : (if (a0.size : Int) > 300 then (some true) else ((brk_Break.f k a1 a0 a2).bind fun t256 => ((targumref1_Break.f k a1 a0 a2).bind fun t257 => (if t256 = t257 then ((brk_May.f k a0 a2).bind fun t258 => ((targumref1_May.f k a0 a2).bind fun t259 => (if t258 = t259 then ((brk_Check.f k a0).bind fun t260 => ((targumref1_Check.f k a0).bind fun t261 => (if t260 = t261 then ((brk_Indent.f a0 a3_0 a3_1 a3_2).bind fun t262 => ((targumref1_Indent.f k a0 a3_0 a3_1 a3_2).bind fun t263 => (if t262 = t263 then ((brk_Blank.f a0 a3_0 a3_1 a3_2).bind fun t264 => ((targumref1_Blank.f k a0 a3_0 a3_1 a3_2).bind fun t265 => (if (t264 != t265) = true then (targumlaw2_BrkTells.j0 k a0 a1 true) else ((brk_Marker.f k a0 a3_0 a3_1 a3_2).bind fun t266 => ((targumref1_Marker.f k a0 a3_0 a3_1 a3_2).bind fun t267 => (targumlaw2_BrkTells.j0 k a0 a1 (t266 != t267))))))) else (targumlaw2_BrkTells.j0 k a0 a1 true)))) else (targumlaw2_BrkTells.j0 k a0 a1 true)))) else (targumlaw2_BrkTells.j0 k a0 a1 true)))) else (targumlaw2_BrkTells.j0 k a0 a1 true))))) = some r := by rw [if_pos rfl] at H; exact H
  clear H
  have H := H1
  clear H1
  by_cases c7 : (a0.size : Int) > 300
  ·rw [if_pos c7] at H
   have c7b0 : decide (300 < (a0.size : Int)) = true := decide_eq_true c7
   have c7b1 : decide (300 < a0.size) = true := decide_eq_true (by omega)
   clear c7
   obtain rfl := Option.some.inj H
   go_enter Tryd.func7, Tryd.ntmps7
   go_wp2_with (first | ((with_reducible refine gate_dst (N := 7) rfl ?_); refine box_event ?hg (N := 7) ?hd (cs := #[.int .i64 a3_0, .int .i64 a3_1, .int .i64 a3_2]) (t := 27) ?hr ?_; (case hd => rfl); (case hg => rfl); (case hr => first | (go_simp; done) | (go_simp; rfl)); intro gb254 hg w8 hbox hb; have n0_ := AM (below_step (by repeat (first | (with_reducible first | exact HB.out | apply wA | apply wN | apply wD) | exact HB.out)) hb); have n1_ := AM (hbox); have n2_ := AM ((by rw [hg]; exact (below_size (by repeat (first | (with_reducible first | exact HB.out | apply wA | apply wN | apply wD) | exact HB.out))) : w.heap.size ≤ gb254)); have n3_ := AM ((by rw [hg]; exact (below_size (by repeat (first | (with_reducible first | exact HB.out | apply wA | apply wN | apply wD) | exact HB.out))) : w.heap.size ≤ gb254)); clear HB; have HB := n0_; have BK254 := n1_; have GW254 := n2_; have GE254 := n3_; clear n0_ n1_ n2_ n3_; clear hb hbox hg) | ((with_reducible refine gate_callee (f := 9) rfl ?_); refine goesL_ (some 15) rfl rfl Tryd.func9 (by kernel_rfl) rfl #[] rfl (by (try simp only [qT, qC, qN]); first | done | rfl | (simp only [qD, qU]; rfl)) ?_; (with_reducible refine (targumlaw2_known.calls k  true _ ?side1 A5.out).mono ?_); (case side1 => exact Utf8Tabs_below HG.out (by repeat (first | (with_reducible first | exact HB.out | apply wA | apply wN | apply wD | refine wS ?_ GE254.out) | exact HB.out))); rintro e w9 ⟨rfl, hb⟩; refine ⟨_, rfl, ?_⟩; have n0_ := AM (blk_below (g := gb254) (o := .cells #[.int .i64 a3_0, .int .i64 a3_1, .int .i64 a3_2] 27 (0, 0)) (by (with_reducible repeat (first | refine vN ?_ _ | refine vD ?_ | refine vA ?_ _)); exact BK254.out) hb); have n1_ := AM (below_step (by repeat (first | (with_reducible first | exact HB.out | apply wA | apply wN | apply wD | refine wS ?_ GE254.out) | exact HB.out)) hb); clear BK254; clear HB; have BK254 := n0_; have HB := n1_; clear n0_ n1_; (try clear hb); (try clear hb2); (try clear hk); (try clear hi)))
   go_ret
   exact ⟨by first | rfl | (simp [errW_none, errW_some] <;> rfl) | (simp [*, errW_none, errW_some] <;> rfl), by repeat (first | (with_reducible first | exact HB.out | apply wA | apply wN | apply wD | refine wS ?_ GE254.out) | exact HB.out)⟩
  ·rw [if_neg c7] at H
   have c7b0 : decide (300 < (a0.size : Int)) = false := decide_eq_false c7
   have c7b1 : decide (300 < a0.size) = false := decide_eq_false (by omega)
   clear c7
   have HC10 := AM H
   clear H
   go_enter Tryd.func7, Tryd.ntmps7
   go_upto_region 5 with (first | ((with_reducible refine gate_dst (N := 7) rfl ?_); refine box_event ?hg (N := 7) ?hd (cs := #[.int .i64 a3_0, .int .i64 a3_1, .int .i64 a3_2]) (t := 27) ?hr ?_; (case hd => rfl); (case hg => rfl); (case hr => first | (go_simp; done) | (go_simp; rfl)); intro gb254 hg w11 hbox hb; have n0_ := AM (below_step (by repeat (first | (with_reducible first | exact HB.out | apply wA | apply wN | apply wD) | exact HB.out)) hb); have n1_ := AM (hbox); have n2_ := AM ((by rw [hg]; exact (below_size (by repeat (first | (with_reducible first | exact HB.out | apply wA | apply wN | apply wD) | exact HB.out))) : w.heap.size ≤ gb254)); have n3_ := AM ((by rw [hg]; exact (below_size (by repeat (first | (with_reducible first | exact HB.out | apply wA | apply wN | apply wD) | exact HB.out))) : w.heap.size ≤ gb254)); clear HB; have HB := n0_; have BK254 := n1_; have GW254 := n2_; have GE254 := n3_; clear n0_ n1_ n2_ n3_; clear hb hbox hg) | ((with_reducible refine gate_callee (f := 9) rfl ?_); refine goesL_ (some 15) rfl rfl Tryd.func9 (by kernel_rfl) rfl #[] rfl (by (try simp only [qT, qC, qN]); first | done | rfl | (simp only [qD, qU]; rfl)) ?_; (with_reducible refine (targumlaw2_known.calls k  true _ ?side1 A5.out).mono ?_); (case side1 => exact Utf8Tabs_below HG.out (by repeat (first | (with_reducible first | exact HB.out | apply wA | apply wN | apply wD | refine wS ?_ GE254.out) | exact HB.out))); rintro e w12 ⟨rfl, hb⟩; refine ⟨_, rfl, ?_⟩; have n0_ := AM (blk_below (g := gb254) (o := .cells #[.int .i64 a3_0, .int .i64 a3_1, .int .i64 a3_2] 27 (0, 0)) (by (with_reducible repeat (first | refine vN ?_ _ | refine vD ?_ | refine vA ?_ _)); exact BK254.out) hb); have n1_ := AM (below_step (by repeat (first | (with_reducible first | exact HB.out | apply wA | apply wN | apply wD | refine wS ?_ GE254.out) | exact HB.out)) hb); clear BK254; clear HB; have BK254 := n0_; have HB := n1_; clear n0_ n1_; (try clear hb); (try clear hb2); (try clear hk); (try clear hi)))
   (try simp only [Act.put, qI, qz, qs])
   go_cut [71] (fun v71 wc => ∃ (kq : Nat) (x71_9 : Bool), v71 = .bool x71_9 ∧ Aside0 (targumlaw2_BrkTells.j0 kq a0 a1 x71_9 = some r) ∧ Aside0 (kq ≤ k) ∧ Aside0 (wc.heap[gb254]? = some (.cells #[.int .i64 a3_0, .int .i64 a3_1, .int .i64 a3_2] 27 (0, 0))) ∧ Aside0 (Below w.heap.size w wc))
   case first =>
    have H := HC10.out
    clear HC10
    replace H := Option.bind_eq_some_iff.mp H
    obtain ⟨t256, A130, H⟩ := H
    replace H : ((targumref1_Break.f k a1 a0 a2).bind fun t257 => (if t256 = t257 then ((brk_May.f k a0 a2).bind fun t258 => ((targumref1_May.f k a0 a2).bind fun t259 => (if t258 = t259 then ((brk_Check.f k a0).bind fun t260 => ((targumref1_Check.f k a0).bind fun t261 => (if t260 = t261 then ((brk_Indent.f a0 a3_0 a3_1 a3_2).bind fun t262 => ((targumref1_Indent.f k a0 a3_0 a3_1 a3_2).bind fun t263 => (if t262 = t263 then ((brk_Blank.f a0 a3_0 a3_1 a3_2).bind fun t264 => ((targumref1_Blank.f k a0 a3_0 a3_1 a3_2).bind fun t265 => (if (t264 != t265) = true then (targumlaw2_BrkTells.j0 k a0 a1 true) else ((brk_Marker.f k a0 a3_0 a3_1 a3_2).bind fun t266 => ((targumref1_Marker.f k a0 a3_0 a3_1 a3_2).bind fun t267 => (targumlaw2_BrkTells.j0 k a0 a1 (t266 != t267))))))) else (targumlaw2_BrkTells.j0 k a0 a1 true)))) else (targumlaw2_BrkTells.j0 k a0 a1 true)))) else (targumlaw2_BrkTells.j0 k a0 a1 true)))) else (targumlaw2_BrkTells.j0 k a0 a1 true))) = some r := H
    have A13 := AM A130
    clear A130
    replace H := Option.bind_eq_some_iff.mp H
    obtain ⟨t257, A140, H⟩ := H
    replace H : (if t256 = t257 then ((brk_May.f k a0 a2).bind fun t258 => ((targumref1_May.f k a0 a2).bind fun t259 => (if t258 = t259 then ((brk_Check.f k a0).bind fun t260 => ((targumref1_Check.f k a0).bind fun t261 => (if t260 = t261 then ((brk_Indent.f a0 a3_0 a3_1 a3_2).bind fun t262 => ((targumref1_Indent.f k a0 a3_0 a3_1 a3_2).bind fun t263 => (if t262 = t263 then ((brk_Blank.f a0 a3_0 a3_1 a3_2).bind fun t264 => ((targumref1_Blank.f k a0 a3_0 a3_1 a3_2).bind fun t265 => (if (t264 != t265) = true then (targumlaw2_BrkTells.j0 k a0 a1 true) else ((brk_Marker.f k a0 a3_0 a3_1 a3_2).bind fun t266 => ((targumref1_Marker.f k a0 a3_0 a3_1 a3_2).bind fun t267 => (targumlaw2_BrkTells.j0 k a0 a1 (t266 != t267))))))) else (targumlaw2_BrkTells.j0 k a0 a1 true)))) else (targumlaw2_BrkTells.j0 k a0 a1 true)))) else (targumlaw2_BrkTells.j0 k a0 a1 true)))) else (targumlaw2_BrkTells.j0 k a0 a1 true)) = some r := H
    have A14 := AM A140
    clear A140
    by_cases c15 : t256 = t257
    ·rw [if_pos c15] at H
     have c15b0 : (t256 == t257) = true := beq_iff_eq.mpr c15
     have c15b1 : (t256 != t257) = false := bne_eq_false_iff_eq.mpr c15
     clear c15
     (first | rw [c15b0] | (simp only [qi, qj]; rw [c15b0]) | skip)
     replace H := Option.bind_eq_some_iff.mp H
     obtain ⟨t258, A160, H⟩ := H
     replace H : ((targumref1_May.f k a0 a2).bind fun t259 => (if t258 = t259 then ((brk_Check.f k a0).bind fun t260 => ((targumref1_Check.f k a0).bind fun t261 => (if t260 = t261 then ((brk_Indent.f a0 a3_0 a3_1 a3_2).bind fun t262 => ((targumref1_Indent.f k a0 a3_0 a3_1 a3_2).bind fun t263 => (if t262 = t263 then ((brk_Blank.f a0 a3_0 a3_1 a3_2).bind fun t264 => ((targumref1_Blank.f k a0 a3_0 a3_1 a3_2).bind fun t265 => (if (t264 != t265) = true then (targumlaw2_BrkTells.j0 k a0 a1 true) else ((brk_Marker.f k a0 a3_0 a3_1 a3_2).bind fun t266 => ((targumref1_Marker.f k a0 a3_0 a3_1 a3_2).bind fun t267 => (targumlaw2_BrkTells.j0 k a0 a1 (t266 != t267))))))) else (targumlaw2_BrkTells.j0 k a0 a1 true)))) else (targumlaw2_BrkTells.j0 k a0 a1 true)))) else (targumlaw2_BrkTells.j0 k a0 a1 true))) = some r := H
     have A16 := AM A160
     clear A160
     replace H := Option.bind_eq_some_iff.mp H
     obtain ⟨t259, A170, H⟩ := H
     replace H : (if t258 = t259 then ((brk_Check.f k a0).bind fun t260 => ((targumref1_Check.f k a0).bind fun t261 => (if t260 = t261 then ((brk_Indent.f a0 a3_0 a3_1 a3_2).bind fun t262 => ((targumref1_Indent.f k a0 a3_0 a3_1 a3_2).bind fun t263 => (if t262 = t263 then ((brk_Blank.f a0 a3_0 a3_1 a3_2).bind fun t264 => ((targumref1_Blank.f k a0 a3_0 a3_1 a3_2).bind fun t265 => (if (t264 != t265) = true then (targumlaw2_BrkTells.j0 k a0 a1 true) else ((brk_Marker.f k a0 a3_0 a3_1 a3_2).bind fun t266 => ((targumref1_Marker.f k a0 a3_0 a3_1 a3_2).bind fun t267 => (targumlaw2_BrkTells.j0 k a0 a1 (t266 != t267))))))) else (targumlaw2_BrkTells.j0 k a0 a1 true)))) else (targumlaw2_BrkTells.j0 k a0 a1 true)))) else (targumlaw2_BrkTells.j0 k a0 a1 true)) = some r := H
     have A17 := AM A170
     clear A170
     by_cases c18 : t258 = t259
     ·rw [if_pos c18] at H
      have c18b0 : (t258 == t259) = true := beq_iff_eq.mpr c18
      have c18b1 : (t258 != t259) = false := bne_eq_false_iff_eq.mpr c18
      clear c18
      replace H := Option.bind_eq_some_iff.mp H
      obtain ⟨t260, A190, H⟩ := H
      replace H : ((targumref1_Check.f k a0).bind fun t261 => (if t260 = t261 then ((brk_Indent.f a0 a3_0 a3_1 a3_2).bind fun t262 => ((targumref1_Indent.f k a0 a3_0 a3_1 a3_2).bind fun t263 => (if t262 = t263 then ((brk_Blank.f a0 a3_0 a3_1 a3_2).bind fun t264 => ((targumref1_Blank.f k a0 a3_0 a3_1 a3_2).bind fun t265 => (if (t264 != t265) = true then (targumlaw2_BrkTells.j0 k a0 a1 true) else ((brk_Marker.f k a0 a3_0 a3_1 a3_2).bind fun t266 => ((targumref1_Marker.f k a0 a3_0 a3_1 a3_2).bind fun t267 => (targumlaw2_BrkTells.j0 k a0 a1 (t266 != t267))))))) else (targumlaw2_BrkTells.j0 k a0 a1 true)))) else (targumlaw2_BrkTells.j0 k a0 a1 true))) = some r := H
      have A19 := AM A190
      clear A190
      replace H := Option.bind_eq_some_iff.mp H
      obtain ⟨t261, A200, H⟩ := H
      replace H : (if t260 = t261 then ((brk_Indent.f a0 a3_0 a3_1 a3_2).bind fun t262 => ((targumref1_Indent.f k a0 a3_0 a3_1 a3_2).bind fun t263 => (if t262 = t263 then ((brk_Blank.f a0 a3_0 a3_1 a3_2).bind fun t264 => ((targumref1_Blank.f k a0 a3_0 a3_1 a3_2).bind fun t265 => (if (t264 != t265) = true then (targumlaw2_BrkTells.j0 k a0 a1 true) else ((brk_Marker.f k a0 a3_0 a3_1 a3_2).bind fun t266 => ((targumref1_Marker.f k a0 a3_0 a3_1 a3_2).bind fun t267 => (targumlaw2_BrkTells.j0 k a0 a1 (t266 != t267))))))) else (targumlaw2_BrkTells.j0 k a0 a1 true)))) else (targumlaw2_BrkTells.j0 k a0 a1 true)) = some r := H
      have A20 := AM A200
      clear A200
      by_cases c21 : t260 = t261
      ·rw [if_pos c21] at H
       have c21b0 : (t260 == t261) = true := beq_iff_eq.mpr c21
       have c21b1 : (t260 != t261) = false := bne_eq_false_iff_eq.mpr c21
       clear c21
       replace H := Option.bind_eq_some_iff.mp H
       obtain ⟨t262, A220, H⟩ := H
       replace H : ((targumref1_Indent.f k a0 a3_0 a3_1 a3_2).bind fun t263 => (if t262 = t263 then ((brk_Blank.f a0 a3_0 a3_1 a3_2).bind fun t264 => ((targumref1_Blank.f k a0 a3_0 a3_1 a3_2).bind fun t265 => (if (t264 != t265) = true then (targumlaw2_BrkTells.j0 k a0 a1 true) else ((brk_Marker.f k a0 a3_0 a3_1 a3_2).bind fun t266 => ((targumref1_Marker.f k a0 a3_0 a3_1 a3_2).bind fun t267 => (targumlaw2_BrkTells.j0 k a0 a1 (t266 != t267))))))) else (targumlaw2_BrkTells.j0 k a0 a1 true))) = some r := H
       have A22 := AM A220
       clear A220
       replace H := Option.bind_eq_some_iff.mp H
       obtain ⟨t263, A230, H⟩ := H
       replace H : (if t262 = t263 then ((brk_Blank.f a0 a3_0 a3_1 a3_2).bind fun t264 => ((targumref1_Blank.f k a0 a3_0 a3_1 a3_2).bind fun t265 => (if (t264 != t265) = true then (targumlaw2_BrkTells.j0 k a0 a1 true) else ((brk_Marker.f k a0 a3_0 a3_1 a3_2).bind fun t266 => ((targumref1_Marker.f k a0 a3_0 a3_1 a3_2).bind fun t267 => (targumlaw2_BrkTells.j0 k a0 a1 (t266 != t267))))))) else (targumlaw2_BrkTells.j0 k a0 a1 true)) = some r := H
       have A23 := AM A230
       clear A230
       by_cases c24 : t262 = t263
       ·rw [if_pos c24] at H
        have c24b0 : (t262 == t263) = true := beq_iff_eq.mpr c24
        have c24b1 : (t262 != t263) = false := bne_eq_false_iff_eq.mpr c24
        clear c24
        replace H := Option.bind_eq_some_iff.mp H
        obtain ⟨t264, A250, H⟩ := H
        replace H : ((targumref1_Blank.f k a0 a3_0 a3_1 a3_2).bind fun t265 => (if (t264 != t265) = true then (targumlaw2_BrkTells.j0 k a0 a1 true) else ((brk_Marker.f k a0 a3_0 a3_1 a3_2).bind fun t266 => ((targumref1_Marker.f k a0 a3_0 a3_1 a3_2).bind fun t267 => (targumlaw2_BrkTells.j0 k a0 a1 (t266 != t267)))))) = some r := H
        have A25 := AM A250
        clear A250
        replace H := Option.bind_eq_some_iff.mp H
        obtain ⟨t265, A260, H⟩ := H
        replace H : (if (t264 != t265) = true then (targumlaw2_BrkTells.j0 k a0 a1 true) else ((brk_Marker.f k a0 a3_0 a3_1 a3_2).bind fun t266 => ((targumref1_Marker.f k a0 a3_0 a3_1 a3_2).bind fun t267 => (targumlaw2_BrkTells.j0 k a0 a1 (t266 != t267))))) = some r := H
        have A26 := AM A260
        clear A260
        by_cases c27 : (t264 != t265) = true
        ·rw [if_pos c27] at H
         have c27b0 : (t264 != t265) = true := c27
         (try (have c27b1 : decide (t264 = t265) = false := by simpa using c27))
         (try (have c27b2 : (t264 == t265) = false := by simpa using c27))
         (try (have c27b3 : ¬ (t264 = t265) := by simpa using c27))
         clear c27
         have H' := AM H
         clear H
         try go_wp2
         have n0_ := AM (vD BK254.out)
         have n1_ := AM (wD HB.out)
         clear BK254
         clear HB
         have BK254 := n0_
         have HB := n1_
         clear n0_ n1_
         refine start_ (n := 52) (S := fun w' => w'.cell? ⟨gb254, 0, none⟩ = some (.int .i64 a3_0) ∧ w'.cell? ⟨gb254, 1, none⟩ = some (.int .i64 a3_1) ∧ w'.cell? ⟨gb254, 2, none⟩ = some (.int .i64 a3_2)) (ds := []) mk_0 (by kernel_rfl) rfl rfl ⟨(blk_cell BK254.out 0).trans rfl, (blk_cell BK254.out 1).trans rfl, (blk_cell BK254.out 2).trans rfl⟩ (fun hHeld => ?_); refine with_tabW targumlaw2_BrkTells.tab5 targumlaw2_BrkTells.bits5 (fun HT_ HW_ => ?_)
         generalize w12.drew = w28 at BK254 HB hHeld ⊢
         refine P1 ?_ 0 20 mk_1 rfl rfl HT_.out (by kernel_rfl) (fun _ _ _ => id) (.inl ⟨by rfl, ?_⟩) ?_ ?_ ?_; rotate_left; (intro w'; go_simp; with_reducible rfl); rotate_left; (simp only [pa, qz, qs, qi, qj]; rfl)
         refine P1 ?_ 1 21 mk_2 rfl rfl HT_.out (by kernel_rfl) (fun _ _ _ => id) (.inl ⟨by rfl, ?_⟩) ?_ ?_ ?_; rotate_left; (intro w'; go_simp; with_reducible rfl); rotate_left; (simp only [pa, qz, qs, qi, qj]; rfl)
         refine P1 ?_ 2 22 mk_3 rfl rfl HT_.out (by kernel_rfl) (fun _ _ _ => id) (.inl ⟨by rfl, ?_⟩) ?_ ?_ ?_; rotate_left; (intro w'; go_simp; with_reducible rfl); rotate_left; (simp only [pa, qz, qs, qi, qj]; rfl)
         refine P1 ?_ 4 24 mk_4 rfl rfl HT_.out (by kernel_rfl) (fun _ _ _ => id) (.inl ⟨by rfl, ?_⟩) ?_ ?_ ?_; rotate_left; (intro w'; go_simp; with_reducible rfl); rotate_left; (simp only [pa, qz, qs, qi, qj]; rfl)
         refine P1 ?_ 5 25 mk_5 rfl rfl HT_.out (by kernel_rfl) (fun _ _ _ => id) (.inl ⟨by rfl, ?_⟩) ?_ ?_ ?_; rotate_left; (intro w'; go_simp; with_reducible rfl); rotate_left; (simp only [pa, qz, qs, qi, qj]; rfl)
         refine P1 ?_ 6 26 mk_6 rfl rfl HT_.out (by kernel_rfl) (fun _ _ _ => id) (.inl ⟨by rfl, ?_⟩) ?_ ?_ ?_; rotate_left; (intro w'; go_simp; with_reducible rfl); rotate_left; (simp only [pa, qz, qs, qi, qj]; rfl)
         refine one_ (i := 3) (N := some 23) mk_7 rfl rfl (one_of HT_.out (by kernel_rfl)) (by decide) (fun K hK => ?_)
         refine goes_ Tryd.func12 (by kernel_rfl) rfl #[.int .i64 a1, .string a0, .int .i64 a2] (by rfl) rfl rfl (by (try simp only [qT, qC, qN]); first | done | rfl | (simp only [qD, qU]; rfl)) ?_
         with_reducible refine (brk_Break.calls k a1 a0 a2 t256 _ A13.out).mono ?_
         rintro e w' ⟨rfl, ⟨nd, rfl⟩⟩
         refine ⟨_, rfl, ?_⟩
         refine hK.out _ _ ⟨(blk_cell BK254.out 0).trans rfl, (blk_cell BK254.out 1).trans rfl, (blk_cell BK254.out 2).trans rfl⟩ (fun hHeld => ?_)
         clear hK K
         refine norm_ (a' := ?_) ?_ ?_
         rotate_left
         ·show Act.put _ (some 23) _ = _
          simp only [Act.put, qI, qz, qs, qi, qj]
          rfl
         refine one_ (i := 7) (N := some 27) mk_8 rfl rfl (one_of HT_.out (by kernel_rfl)) (by decide) (fun K hK => ?_)
         refine goes_ Tryd.func15 (by kernel_rfl) rfl #[.int .i64 a1, .string a0, .int .i64 a2] (by rfl) rfl rfl (by (try simp only [qT, qC, qN]); first | done | rfl | (simp only [qD, qU]; rfl)) ?_
         with_reducible refine (targumref1_Break.calls k a1 a0 a2 t257 _ A14.out).mono ?_
         rintro e w' ⟨rfl, ⟨nd, rfl⟩⟩
         refine ⟨_, rfl, ?_⟩
         refine hK.out _ _ ⟨(blk_cell BK254.out 0).trans rfl, (blk_cell BK254.out 1).trans rfl, (blk_cell BK254.out 2).trans rfl⟩ (fun hHeld => ?_)
         clear hK K
         refine norm_ (a' := ?_) ?_ ?_
         rotate_left
         ·show Act.put _ (some 27) _ = _
          simp only [Act.put, qI, qz, qs, qi, qj]
          rfl
         refine P1 ?_ 8 28 mk_9 rfl rfl HT_.out (by kernel_rfl) (fun _ _ _ => id) (.inl ⟨by rfl, ?_⟩) ?_ ?_ ?_; rotate_left; (intro w'; go_simp; with_reducible rfl); rotate_left; (simp only [pa, qz, qs, qi, qj]; rfl)
         refine P1 ?_ 9 29 mk_10 rfl rfl HT_.out (by kernel_rfl) (fun _ _ _ => id) (.inl ⟨by rfl, ?_⟩) ?_ ?_ ?_; rotate_left; (intro w'; go_simp; with_reducible rfl); rotate_left; (simp only [pa, qz, qs, qi, qj]; rfl)
         refine P1 ?_ 10 30 mk_11 rfl rfl HT_.out (by kernel_rfl) (fun _ _ _ => id) (.inl ⟨by rfl, ?_⟩) ?_ ?_ ?_; rotate_left; (intro w'; go_simp; with_reducible rfl); rotate_left; (simp only [pa, qz, qs, qi, qj]; rfl)
         refine P1 ?_ 11 31 mk_12 rfl rfl HT_.out (by kernel_rfl) (fun _ _ _ => id) (.inl ⟨by rfl, ?_⟩) ?_ ?_ ?_; rotate_left; (intro w'; go_simp; with_reducible rfl); rotate_left; (simp only [pa, qz, qs, qi, qj]; rfl)
         refine P1 ?_ 13 33 mk_13 rfl rfl HT_.out (by kernel_rfl) (fun _ _ _ => id) (.inl ⟨by rfl, ?_⟩) ?_ ?_ ?_; rotate_left; (intro w'; go_simp; with_reducible rfl); rotate_left; (simp only [pa, qz, qs, qi, qj]; rfl)
         refine P1 ?_ 14 34 mk_14 rfl rfl HT_.out (by kernel_rfl) (fun _ _ _ => id) (.inl ⟨by rfl, ?_⟩) ?_ ?_ ?_; rotate_left; (intro w'; go_simp; with_reducible rfl); rotate_left; (simp only [pa, qz, qs, qi, qj]; rfl)
         refine one_ (i := 12) (N := some 32) mk_15 rfl rfl (one_of HT_.out (by kernel_rfl)) (by decide) (fun K hK => ?_)
         refine goes_ Tryd.func17 (by kernel_rfl) rfl #[.string a0, .int .i64 a2] (by rfl) rfl rfl (by (try simp only [qT, qC, qN]); first | done | rfl | (simp only [qD, qU]; rfl)) ?_
         with_reducible refine (brk_May.calls k a0 a2 t258 _ ?side1 A16.out).mono ?_
         (case side1 => exact Utf8Tabs_below HG.out (by repeat (first | (with_reducible first | exact HB.out | apply wA | apply wN | apply wD | refine wS ?_ GE254.out) | exact HB.out)))
         rintro e w29 ⟨rfl, hb⟩
         refine ⟨_, rfl, ?_⟩
         have n0_ := AM (blk_below (g := gb254) (o := .cells #[.int .i64 a3_0, .int .i64 a3_1, .int .i64 a3_2] 27 (0, 0)) (by (with_reducible repeat (first | refine vN ?_ _ | refine vD ?_ | refine vA ?_ _)); exact BK254.out) hb)
         have n1_ := AM (below_step (by repeat (first | (with_reducible first | exact HB.out | apply wA | apply wN | apply wD | refine wS ?_ GE254.out) | exact HB.out)) hb)
         clear BK254
         clear HB
         have BK254 := n0_
         have HB := n1_
         clear n0_ n1_
         (try clear hb)
         (try clear hb2)
         (try clear hk)
         (try clear hi)
         refine hK.out _ _ ⟨(blk_cell BK254.out 0).trans rfl, (blk_cell BK254.out 1).trans rfl, (blk_cell BK254.out 2).trans rfl⟩ (fun hHeld => ?_)
         clear hK K
         refine norm_ (a' := ?_) ?_ ?_
         rotate_left
         ·show Act.put _ (some 32) _ = _
          simp only [Act.put, qI, qz, qs, qi, qj]
          rfl
         refine one_ (i := 15) (N := some 35) mk_16 rfl rfl (one_of HT_.out (by kernel_rfl)) (by decide) (fun K hK => ?_)
         refine goes_ Tryd.func18 (by kernel_rfl) rfl #[.string a0, .int .i64 a2] (by rfl) rfl rfl (by (try simp only [qT, qC, qN]); first | done | rfl | (simp only [qD, qU]; rfl)) ?_
         with_reducible refine (targumref1_May.calls k a0 a2 t259 _ A17.out).mono ?_
         rintro e w' ⟨rfl, ⟨nd, rfl⟩⟩
         refine ⟨_, rfl, ?_⟩
         refine hK.out _ _ ⟨(blk_cell BK254.out 0).trans rfl, (blk_cell BK254.out 1).trans rfl, (blk_cell BK254.out 2).trans rfl⟩ (fun hHeld => ?_)
         clear hK K
         refine norm_ (a' := ?_) ?_ ?_
         rotate_left
         ·show Act.put _ (some 35) _ = _
          simp only [Act.put, qI, qz, qs, qi, qj]
          rfl
         refine P1 ?_ 16 36 mk_17 rfl rfl HT_.out (by kernel_rfl) (fun _ _ _ => id) (.inl ⟨by rfl, ?_⟩) ?_ ?_ ?_; rotate_left; (intro w'; go_simp; with_reducible rfl); rotate_left; (simp only [pa, qz, qs, qi, qj]; rfl)
         refine P1 ?_ 17 37 mk_18 rfl rfl HT_.out (by kernel_rfl) (fun _ _ _ => id) (.inl ⟨by rfl, ?_⟩) ?_ ?_ ?_; rotate_left; (intro w'; go_simp; with_reducible rfl); rotate_left; (simp only [pa, qz, qs, qi, qj]; rfl)
         refine P1 ?_ 18 38 mk_19 rfl rfl HT_.out (by kernel_rfl) (fun _ _ _ => id) (.inl ⟨by rfl, ?_⟩) ?_ ?_ ?_; rotate_left; (intro w'; go_simp; with_reducible rfl); rotate_left; (simp only [pa, qz, qs, qi, qj]; rfl)
         refine P1 ?_ 19 39 mk_20 rfl rfl HT_.out (by kernel_rfl) (fun _ _ _ => id) (.inl ⟨by rfl, ?_⟩) ?_ ?_ ?_; rotate_left; (intro w'; go_simp; with_reducible rfl); rotate_left; (simp only [pa, qz, qs, qi, qj]; rfl)
         refine P1 ?_ 21 41 mk_21 rfl rfl HT_.out (by kernel_rfl) (fun _ _ _ => id) (.inl ⟨by rfl, ?_⟩) ?_ ?_ ?_; rotate_left; (intro w'; go_simp; with_reducible rfl); rotate_left; (simp only [pa, qz, qs, qi, qj]; rfl)
         refine one_ (i := 20) (N := some 40) mk_22 rfl rfl (one_of HT_.out (by kernel_rfl)) (by decide) (fun K hK => ?_)
         refine goes_ Tryd.func16 (by kernel_rfl) rfl #[.string a0] (by rfl) rfl rfl (by (try simp only [qT, qC, qN]); first | done | rfl | (simp only [qD, qU]; rfl)) ?_
         with_reducible refine (brk_Check.calls k a0 t260 _ ?side1 A19.out).mono ?_
         (case side1 => exact Utf8Tabs_below HG.out (by repeat (first | (with_reducible first | exact HB.out | apply wA | apply wN | apply wD | refine wS ?_ GE254.out) | exact HB.out)))
         rintro e w30 ⟨rfl, hb⟩
         refine ⟨_, rfl, ?_⟩
         have n0_ := AM (blk_below (g := gb254) (o := .cells #[.int .i64 a3_0, .int .i64 a3_1, .int .i64 a3_2] 27 (0, 0)) (by (with_reducible repeat (first | refine vN ?_ _ | refine vD ?_ | refine vA ?_ _)); exact BK254.out) hb)
         have n1_ := AM (below_step (by repeat (first | (with_reducible first | exact HB.out | apply wA | apply wN | apply wD | refine wS ?_ GE254.out) | exact HB.out)) hb)
         clear BK254
         clear HB
         have BK254 := n0_
         have HB := n1_
         clear n0_ n1_
         (try clear hb)
         (try clear hb2)
         (try clear hk)
         (try clear hi)
         refine hK.out _ _ ⟨(blk_cell BK254.out 0).trans rfl, (blk_cell BK254.out 1).trans rfl, (blk_cell BK254.out 2).trans rfl⟩ (fun hHeld => ?_)
         clear hK K
         refine norm_ (a' := ?_) ?_ ?_
         rotate_left
         ·show Act.put _ (some 40) _ = _
          simp only [Act.put, qI, qz, qs, qi, qj]
          rfl
         refine one_ (i := 22) (N := some 42) mk_23 rfl rfl (one_of HT_.out (by kernel_rfl)) (by decide) (fun K hK => ?_)
         refine goes_ Tryd.func19 (by kernel_rfl) rfl #[.string a0] (by rfl) rfl rfl (by (try simp only [qT, qC, qN]); first | done | rfl | (simp only [qD, qU]; rfl)) ?_
         with_reducible refine (targumref1_Check.calls k a0 t261 _ A20.out).mono ?_
         rintro e w' ⟨rfl, ⟨nd, rfl⟩⟩
         refine ⟨_, rfl, ?_⟩
         refine hK.out _ _ ⟨(blk_cell BK254.out 0).trans rfl, (blk_cell BK254.out 1).trans rfl, (blk_cell BK254.out 2).trans rfl⟩ (fun hHeld => ?_)
         clear hK K
         refine norm_ (a' := ?_) ?_ ?_
         rotate_left
         ·show Act.put _ (some 42) _ = _
          simp only [Act.put, qI, qz, qs, qi, qj]
          rfl
         refine P1 ?_ 23 43 mk_24 rfl rfl HT_.out (by kernel_rfl) (fun _ _ _ => id) (.inl ⟨by rfl, ?_⟩) ?_ ?_ ?_; rotate_left; (intro w'; go_simp; with_reducible rfl); rotate_left; (simp only [pa, qz, qs, qi, qj]; rfl)
         refine P1 ?_ 24 44 mk_25 rfl rfl HT_.out (by kernel_rfl) (fun _ _ _ => id) (.inl ⟨by rfl, ?_⟩) ?_ ?_ ?_; rotate_left; (intro w'; go_simp; with_reducible rfl); rotate_left; (simp only [pa, qz, qs, qi, qj]; rfl)
         refine P1 ?_ 25 45 mk_26 rfl rfl HT_.out (by kernel_rfl) (fun _ _ _ => id) (.inl ⟨by rfl, ?_⟩) ?_ ?_ ?_; rotate_left; (intro w'; go_simp; with_reducible rfl); rotate_left; (simp only [pa, qz, qs, qi, qj]; rfl)
         refine P1 ?_ 26 46 mk_27 rfl rfl HT_.out (by kernel_rfl) (fun _ _ _ => id) (.inl ⟨by rfl, ?_⟩) ?_ ?_ ?_; rotate_left; (intro w'; go_simp; with_reducible rfl); rotate_left; (simp only [pa, qz, qs, qi, qj]; rfl)
         refine P1 ?_ 29 49 mk_28 rfl rfl HT_.out (by kernel_rfl) (fun _ _ _ => id) (.inl ⟨by rfl, ?_⟩) ?_ ?_ ?_; rotate_left; (intro w'; go_simp; with_reducible rfl); rotate_left; (simp only [pa, qz, qs, qi, qj]; rfl)
         refine T1 ?_ 27 47 mk_29 rfl rfl HT_.out HW_.out (by kernel_rfl) (fun _ _ _ => id) (.inl ⟨by rfl, ?_⟩) hHeld ?_ ?_ ?_; rotate_left; (rintro w' ⟨s0, s1, s2⟩; go_simp; with_reducible rfl); rotate_left; (simp only [pa, qz, qs, qi, qj]; rfl)
         refine T1 ?_ 30 50 mk_30 rfl rfl HT_.out HW_.out (by kernel_rfl) (fun _ _ _ => id) (.inl ⟨by rfl, ?_⟩) hHeld ?_ ?_ ?_; rotate_left; (rintro w' ⟨s0, s1, s2⟩; go_simp; with_reducible rfl); rotate_left; (simp only [pa, qz, qs, qi, qj]; rfl)
         refine one_ (i := 28) (N := some 48) mk_31 rfl rfl (one_of HT_.out (by kernel_rfl)) (by decide) (fun K hK => ?_)
         refine goes_ Tryd.func20 (by kernel_rfl) rfl #[.string a0, .agg #[.int .i64 a3_0, .int .i64 a3_1, .int .i64 a3_2]] (by rfl) rfl rfl (by (try simp only [qT, qC, qN]); first | done | rfl | (simp only [qD, qU]; rfl)) ?_
         with_reducible refine (brk_Indent.calls a0 a3_0 a3_1 a3_2 t262 _ A22.out).mono ?_
         rintro e w31 ⟨rfl, hb⟩
         refine ⟨_, rfl, ?_⟩
         have n0_ := AM (blk_below (g := gb254) (o := .cells #[.int .i64 a3_0, .int .i64 a3_1, .int .i64 a3_2] 27 (0, 0)) (by (with_reducible repeat (first | refine vN ?_ _ | refine vD ?_ | refine vA ?_ _)); exact BK254.out) hb)
         have n1_ := AM (below_step (by repeat (first | (with_reducible first | exact HB.out | apply wA | apply wN | apply wD | refine wS ?_ GE254.out) | exact HB.out)) hb)
         clear BK254
         clear HB
         have BK254 := n0_
         have HB := n1_
         clear n0_ n1_
         (try clear hb)
         (try clear hb2)
         (try clear hk)
         (try clear hi)
         refine hK.out _ _ ⟨(blk_cell BK254.out 0).trans rfl, (blk_cell BK254.out 1).trans rfl, (blk_cell BK254.out 2).trans rfl⟩ (fun hHeld => ?_)
         clear hK K
         refine norm_ (a' := ?_) ?_ ?_
         rotate_left
         ·show Act.put _ (some 48) _ = _
          simp only [Act.put, qI, qz, qs, qi, qj]
          rfl
         refine one_ (i := 31) (N := some 51) mk_32 rfl rfl (one_of HT_.out (by kernel_rfl)) (by decide) (fun K hK => ?_)
         refine goes_ Tryd.func21 (by kernel_rfl) rfl #[.string a0, .agg #[.int .i64 a3_0, .int .i64 a3_1, .int .i64 a3_2]] (by rfl) rfl rfl (by (try simp only [qT, qC, qN]); first | done | rfl | (simp only [qD, qU]; rfl)) ?_
         with_reducible refine (targumref1_Indent.calls k a0 a3_0 a3_1 a3_2 t263 _ A23.out).mono ?_
         rintro e w32 ⟨rfl, hb⟩
         refine ⟨_, rfl, ?_⟩
         have n0_ := AM (blk_below (g := gb254) (o := .cells #[.int .i64 a3_0, .int .i64 a3_1, .int .i64 a3_2] 27 (0, 0)) (by (with_reducible repeat (first | refine vN ?_ _ | refine vD ?_ | refine vA ?_ _)); exact BK254.out) hb)
         have n1_ := AM (below_step (by repeat (first | (with_reducible first | exact HB.out | apply wA | apply wN | apply wD | refine wS ?_ GE254.out) | exact HB.out)) hb)
         clear BK254
         clear HB
         have BK254 := n0_
         have HB := n1_
         clear n0_ n1_
         (try clear hb)
         (try clear hb2)
         (try clear hk)
         (try clear hi)
         refine hK.out _ _ ⟨(blk_cell BK254.out 0).trans rfl, (blk_cell BK254.out 1).trans rfl, (blk_cell BK254.out 2).trans rfl⟩ (fun hHeld => ?_)
         clear hK K
         refine norm_ (a' := ?_) ?_ ?_
         rotate_left
         ·show Act.put _ (some 51) _ = _
          simp only [Act.put, qI, qz, qs, qi, qj]
          rfl
         refine P1 ?_ 32 52 mk_33 rfl rfl HT_.out (by kernel_rfl) (fun _ _ _ => id) (.inl ⟨by rfl, ?_⟩) ?_ ?_ ?_; rotate_left; (intro w'; go_simp; with_reducible rfl); rotate_left; (simp only [pa, qz, qs, qi, qj]; rfl)
         refine P1 ?_ 33 53 mk_34 rfl rfl HT_.out (by kernel_rfl) (fun _ _ _ => id) (.inl ⟨by rfl, ?_⟩) ?_ ?_ ?_; rotate_left; (intro w'; go_simp; with_reducible rfl); rotate_left; (simp only [pa, qz, qs, qi, qj]; rfl)
         refine P1 ?_ 34 54 mk_35 rfl rfl HT_.out (by kernel_rfl) (fun _ _ _ => id) (.inl ⟨by rfl, ?_⟩) ?_ ?_ ?_; rotate_left; (intro w'; go_simp; with_reducible rfl); rotate_left; (simp only [pa, qz, qs, qi, qj]; rfl)
         refine P1 ?_ 35 55 mk_36 rfl rfl HT_.out (by kernel_rfl) (fun _ _ _ => id) (.inl ⟨by rfl, ?_⟩) ?_ ?_ ?_; rotate_left; (intro w'; go_simp; with_reducible rfl); rotate_left; (simp only [pa, qz, qs, qi, qj]; rfl)
         refine P1 ?_ 38 58 mk_37 rfl rfl HT_.out (by kernel_rfl) (fun _ _ _ => id) (.inl ⟨by rfl, ?_⟩) ?_ ?_ ?_; rotate_left; (intro w'; go_simp; with_reducible rfl); rotate_left; (simp only [pa, qz, qs, qi, qj]; rfl)
         refine T1 ?_ 36 56 mk_38 rfl rfl HT_.out HW_.out (by kernel_rfl) (fun _ _ _ => id) (.inl ⟨by rfl, ?_⟩) hHeld ?_ ?_ ?_; rotate_left; (rintro w' ⟨s0, s1, s2⟩; go_simp; with_reducible rfl); rotate_left; (simp only [pa, qz, qs, qi, qj]; rfl)
         refine T1 ?_ 39 59 mk_39 rfl rfl HT_.out HW_.out (by kernel_rfl) (fun _ _ _ => id) (.inl ⟨by rfl, ?_⟩) hHeld ?_ ?_ ?_; rotate_left; (rintro w' ⟨s0, s1, s2⟩; go_simp; with_reducible rfl); rotate_left; (simp only [pa, qz, qs, qi, qj]; rfl)
         refine one_ (i := 37) (N := some 57) mk_40 rfl rfl (one_of HT_.out (by kernel_rfl)) (by decide) (fun K hK => ?_)
         refine goes_ Tryd.func22 (by kernel_rfl) rfl #[.string a0, .agg #[.int .i64 a3_0, .int .i64 a3_1, .int .i64 a3_2]] (by rfl) rfl rfl (by (try simp only [qT, qC, qN]); first | done | rfl | (simp only [qD, qU]; rfl)) ?_
         with_reducible refine (brk_Blank.calls a0 a3_0 a3_1 a3_2 t264 _ A25.out).mono ?_
         rintro e w33 ⟨rfl, hb⟩
         refine ⟨_, rfl, ?_⟩
         have n0_ := AM (blk_below (g := gb254) (o := .cells #[.int .i64 a3_0, .int .i64 a3_1, .int .i64 a3_2] 27 (0, 0)) (by (with_reducible repeat (first | refine vN ?_ _ | refine vD ?_ | refine vA ?_ _)); exact BK254.out) hb)
         have n1_ := AM (below_step (by repeat (first | (with_reducible first | exact HB.out | apply wA | apply wN | apply wD | refine wS ?_ GE254.out) | exact HB.out)) hb)
         clear BK254
         clear HB
         have BK254 := n0_
         have HB := n1_
         clear n0_ n1_
         (try clear hb)
         (try clear hb2)
         (try clear hk)
         (try clear hi)
         refine hK.out _ _ ⟨(blk_cell BK254.out 0).trans rfl, (blk_cell BK254.out 1).trans rfl, (blk_cell BK254.out 2).trans rfl⟩ (fun hHeld => ?_)
         clear hK K
         refine norm_ (a' := ?_) ?_ ?_
         rotate_left
         ·show Act.put _ (some 57) _ = _
          simp only [Act.put, qI, qz, qs, qi, qj]
          rfl
         refine one_ (i := 40) (N := some 60) mk_41 rfl rfl (one_of HT_.out (by kernel_rfl)) (by decide) (fun K hK => ?_)
         refine goes_ Tryd.func23 (by kernel_rfl) rfl #[.string a0, .agg #[.int .i64 a3_0, .int .i64 a3_1, .int .i64 a3_2]] (by rfl) rfl rfl (by (try simp only [qT, qC, qN]); first | done | rfl | (simp only [qD, qU]; rfl)) ?_
         with_reducible refine (targumref1_Blank.calls k a0 a3_0 a3_1 a3_2 t265 _ A26.out).mono ?_
         rintro e w34 ⟨rfl, hb⟩
         refine ⟨_, rfl, ?_⟩
         have n0_ := AM (blk_below (g := gb254) (o := .cells #[.int .i64 a3_0, .int .i64 a3_1, .int .i64 a3_2] 27 (0, 0)) (by (with_reducible repeat (first | refine vN ?_ _ | refine vD ?_ | refine vA ?_ _)); exact BK254.out) hb)
         have n1_ := AM (below_step (by repeat (first | (with_reducible first | exact HB.out | apply wA | apply wN | apply wD | refine wS ?_ GE254.out) | exact HB.out)) hb)
         clear BK254
         clear HB
         have BK254 := n0_
         have HB := n1_
         clear n0_ n1_
         (try clear hb)
         (try clear hb2)
         (try clear hk)
         (try clear hi)
         refine hK.out _ _ ⟨(blk_cell BK254.out 0).trans rfl, (blk_cell BK254.out 1).trans rfl, (blk_cell BK254.out 2).trans rfl⟩ (fun hHeld => ?_)
         clear hK K
         refine norm_ (a' := ?_) ?_ ?_
         rotate_left
         ·show Act.put _ (some 60) _ = _
          simp only [Act.put, qI, qz, qs, qi, qj]
          rfl
         refine P1 ?_ 41 61 mk_42 rfl rfl HT_.out (by kernel_rfl) (fun _ _ _ => id) (.inl ⟨by rfl, ?_⟩) ?_ ?_ ?_; rotate_left; (intro w'; go_simp; with_reducible rfl); rotate_left; (simp only [pa, qz, qs, qi, qj]; rfl)
         refine P1 ?_ 42 62 mk_43 rfl rfl HT_.out (by kernel_rfl) (fun _ _ _ => id) (.inl ⟨by rfl, ?_⟩) ?_ ?_ ?_; rotate_left; (intro w'; go_simp; with_reducible rfl); rotate_left; (simp only [pa, qz, qs, qi, qj]; rfl)
         refine P1 ?_ 43 63 mk_44 rfl rfl HT_.out (by kernel_rfl) (fun _ _ _ => id) (.inl ⟨by rfl, ?_⟩) ?_ ?_ ?_; rotate_left; (intro w'; go_simp; with_reducible rfl); rotate_left; (simp only [pa, qz, qs, qi, qj]; rfl)
         refine P1 undef 44 64 mk_45 rfl rfl HT_.out (by kernel_rfl) (fun _ _ _ => id) (.inr ⟨by rfl, rfl⟩) ?_ ?_ ?_; rotate_left; (simp only [pa, qz, qs, qi, qj]; rfl)
         refine P1 undef 45 65 mk_46 rfl rfl HT_.out (by kernel_rfl) (fun _ _ _ => id) (.inr ⟨by rfl, rfl⟩) ?_ ?_ ?_; rotate_left; (simp only [pa, qz, qs, qi, qj]; rfl)
         refine P1 undef 46 66 mk_47 rfl rfl HT_.out (by kernel_rfl) (fun _ _ _ => id) (.inr ⟨by rfl, rfl⟩) ?_ ?_ ?_; rotate_left; (simp only [pa, qz, qs, qi, qj]; rfl)
         refine P1 undef 47 67 mk_48 rfl rfl HT_.out (by kernel_rfl) (fun _ _ _ => id) (.inr ⟨by rfl, rfl⟩) ?_ ?_ ?_; rotate_left; (simp only [pa, qz, qs, qi, qj]; rfl)
         refine P1 undef 48 68 mk_49 rfl rfl HT_.out (by kernel_rfl) (fun _ _ _ => id) (.inr ⟨by rfl, rfl⟩) ?_ ?_ ?_; rotate_left; (simp only [pa, qz, qs, qi, qj]; rfl)
         refine P1 undef 49 69 mk_50 rfl rfl HT_.out (by kernel_rfl) (fun _ _ _ => id) (.inr ⟨by rfl, rfl⟩) ?_ ?_ ?_; rotate_left; (simp only [pa, qz, qs, qi, qj]; rfl)
         refine P1 undef 50 70 mk_51 rfl rfl HT_.out (by kernel_rfl) (fun _ _ _ => id) (.inr ⟨by rfl, rfl⟩) ?_ ?_ ?_; rotate_left; (simp only [pa, qz, qs, qi, qj]; rfl)
         refine P1 ?_ 51 71 mk_52 rfl rfl HT_.out (by kernel_rfl) (fun _ _ _ => id) (.inl ⟨by rfl, ?_⟩) ?_ ?_ ?_; rotate_left; (intro w'; go_simp; with_reducible rfl); rotate_left; (simp only [pa, qz, qs, qi, qj]; rfl)
         refine done_ (done_of HT_.out (by kernel_rfl)) ?_
         try go_wp2
         go_meet
         case rel => exact ⟨_, (true), (by first | rfl | (simp; done) | (simp [*]; done) | (simp [wrap64]; done)), H', ⟨by first | omega | exact Nat.le_refl _⟩, ⟨by (with_reducible repeat (first | refine vN ?_ _ | refine vD ?_ | refine vA ?_ _)); exact BK254.out⟩, ⟨by repeat (first | (with_reducible first | exact HB.out | apply wA | apply wN | apply wD | refine wS ?_ GE254.out) | exact HB.out)⟩⟩
        ·rw [if_neg c27] at H
         have c27b0 : (t264 != t265) = false := by simpa using c27
         (try (have c27b1 : decide (t264 = t265) = true := by simpa using c27))
         (try (have c27b2 : (t264 == t265) = true := by simpa using c27))
         clear c27
         replace H := Option.bind_eq_some_iff.mp H
         obtain ⟨t266, A350, H⟩ := H
         replace H : ((targumref1_Marker.f k a0 a3_0 a3_1 a3_2).bind fun t267 => (targumlaw2_BrkTells.j0 k a0 a1 (t266 != t267))) = some r := H
         have A35 := AM A350
         clear A350
         replace H := Option.bind_eq_some_iff.mp H
         obtain ⟨t267, A360, H⟩ := H
         replace H : (targumlaw2_BrkTells.j0 k a0 a1 (t266 != t267)) = some r := H
         have A36 := AM A360
         clear A360
         have H' := AM H
         clear H
         try go_wp2
         have n0_ := AM (vD BK254.out)
         have n1_ := AM (wD HB.out)
         clear BK254
         clear HB
         have BK254 := n0_
         have HB := n1_
         clear n0_ n1_
         refine start_ (n := 52) (S := fun w' => w'.cell? ⟨gb254, 0, none⟩ = some (.int .i64 a3_0) ∧ w'.cell? ⟨gb254, 1, none⟩ = some (.int .i64 a3_1) ∧ w'.cell? ⟨gb254, 2, none⟩ = some (.int .i64 a3_2)) (ds := []) mk_0 (by kernel_rfl) rfl rfl ⟨(blk_cell BK254.out 0).trans rfl, (blk_cell BK254.out 1).trans rfl, (blk_cell BK254.out 2).trans rfl⟩ (fun hHeld => ?_); refine with_tabW targumlaw2_BrkTells.tab5 targumlaw2_BrkTells.bits5 (fun HT_ HW_ => ?_)
         generalize w12.drew = w37 at BK254 HB hHeld ⊢
         refine P1 ?_ 0 20 mk_1 rfl rfl HT_.out (by kernel_rfl) (fun _ _ _ => id) (.inl ⟨by rfl, ?_⟩) ?_ ?_ ?_; rotate_left; (intro w'; go_simp; with_reducible rfl); rotate_left; (simp only [pa, qz, qs, qi, qj]; rfl)
         refine P1 ?_ 1 21 mk_2 rfl rfl HT_.out (by kernel_rfl) (fun _ _ _ => id) (.inl ⟨by rfl, ?_⟩) ?_ ?_ ?_; rotate_left; (intro w'; go_simp; with_reducible rfl); rotate_left; (simp only [pa, qz, qs, qi, qj]; rfl)
         refine P1 ?_ 2 22 mk_3 rfl rfl HT_.out (by kernel_rfl) (fun _ _ _ => id) (.inl ⟨by rfl, ?_⟩) ?_ ?_ ?_; rotate_left; (intro w'; go_simp; with_reducible rfl); rotate_left; (simp only [pa, qz, qs, qi, qj]; rfl)
         refine P1 ?_ 4 24 mk_4 rfl rfl HT_.out (by kernel_rfl) (fun _ _ _ => id) (.inl ⟨by rfl, ?_⟩) ?_ ?_ ?_; rotate_left; (intro w'; go_simp; with_reducible rfl); rotate_left; (simp only [pa, qz, qs, qi, qj]; rfl)
         refine P1 ?_ 5 25 mk_5 rfl rfl HT_.out (by kernel_rfl) (fun _ _ _ => id) (.inl ⟨by rfl, ?_⟩) ?_ ?_ ?_; rotate_left; (intro w'; go_simp; with_reducible rfl); rotate_left; (simp only [pa, qz, qs, qi, qj]; rfl)
         refine P1 ?_ 6 26 mk_6 rfl rfl HT_.out (by kernel_rfl) (fun _ _ _ => id) (.inl ⟨by rfl, ?_⟩) ?_ ?_ ?_; rotate_left; (intro w'; go_simp; with_reducible rfl); rotate_left; (simp only [pa, qz, qs, qi, qj]; rfl)
         refine one_ (i := 3) (N := some 23) mk_7 rfl rfl (one_of HT_.out (by kernel_rfl)) (by decide) (fun K hK => ?_)
         refine goes_ Tryd.func12 (by kernel_rfl) rfl #[.int .i64 a1, .string a0, .int .i64 a2] (by rfl) rfl rfl (by (try simp only [qT, qC, qN]); first | done | rfl | (simp only [qD, qU]; rfl)) ?_
         with_reducible refine (brk_Break.calls k a1 a0 a2 t256 _ A13.out).mono ?_
         rintro e w' ⟨rfl, ⟨nd, rfl⟩⟩
         refine ⟨_, rfl, ?_⟩
         refine hK.out _ _ ⟨(blk_cell BK254.out 0).trans rfl, (blk_cell BK254.out 1).trans rfl, (blk_cell BK254.out 2).trans rfl⟩ (fun hHeld => ?_)
         clear hK K
         refine norm_ (a' := ?_) ?_ ?_
         rotate_left
         ·show Act.put _ (some 23) _ = _
          simp only [Act.put, qI, qz, qs, qi, qj]
          rfl
         refine one_ (i := 7) (N := some 27) mk_8 rfl rfl (one_of HT_.out (by kernel_rfl)) (by decide) (fun K hK => ?_)
         refine goes_ Tryd.func15 (by kernel_rfl) rfl #[.int .i64 a1, .string a0, .int .i64 a2] (by rfl) rfl rfl (by (try simp only [qT, qC, qN]); first | done | rfl | (simp only [qD, qU]; rfl)) ?_
         with_reducible refine (targumref1_Break.calls k a1 a0 a2 t257 _ A14.out).mono ?_
         rintro e w' ⟨rfl, ⟨nd, rfl⟩⟩
         refine ⟨_, rfl, ?_⟩
         refine hK.out _ _ ⟨(blk_cell BK254.out 0).trans rfl, (blk_cell BK254.out 1).trans rfl, (blk_cell BK254.out 2).trans rfl⟩ (fun hHeld => ?_)
         clear hK K
         refine norm_ (a' := ?_) ?_ ?_
         rotate_left
         ·show Act.put _ (some 27) _ = _
          simp only [Act.put, qI, qz, qs, qi, qj]
          rfl
         refine P1 ?_ 8 28 mk_9 rfl rfl HT_.out (by kernel_rfl) (fun _ _ _ => id) (.inl ⟨by rfl, ?_⟩) ?_ ?_ ?_; rotate_left; (intro w'; go_simp; with_reducible rfl); rotate_left; (simp only [pa, qz, qs, qi, qj]; rfl)
         refine P1 ?_ 9 29 mk_10 rfl rfl HT_.out (by kernel_rfl) (fun _ _ _ => id) (.inl ⟨by rfl, ?_⟩) ?_ ?_ ?_; rotate_left; (intro w'; go_simp; with_reducible rfl); rotate_left; (simp only [pa, qz, qs, qi, qj]; rfl)
         refine P1 ?_ 10 30 mk_11 rfl rfl HT_.out (by kernel_rfl) (fun _ _ _ => id) (.inl ⟨by rfl, ?_⟩) ?_ ?_ ?_; rotate_left; (intro w'; go_simp; with_reducible rfl); rotate_left; (simp only [pa, qz, qs, qi, qj]; rfl)
         refine P1 ?_ 11 31 mk_12 rfl rfl HT_.out (by kernel_rfl) (fun _ _ _ => id) (.inl ⟨by rfl, ?_⟩) ?_ ?_ ?_; rotate_left; (intro w'; go_simp; with_reducible rfl); rotate_left; (simp only [pa, qz, qs, qi, qj]; rfl)
         refine P1 ?_ 13 33 mk_13 rfl rfl HT_.out (by kernel_rfl) (fun _ _ _ => id) (.inl ⟨by rfl, ?_⟩) ?_ ?_ ?_; rotate_left; (intro w'; go_simp; with_reducible rfl); rotate_left; (simp only [pa, qz, qs, qi, qj]; rfl)
         refine P1 ?_ 14 34 mk_14 rfl rfl HT_.out (by kernel_rfl) (fun _ _ _ => id) (.inl ⟨by rfl, ?_⟩) ?_ ?_ ?_; rotate_left; (intro w'; go_simp; with_reducible rfl); rotate_left; (simp only [pa, qz, qs, qi, qj]; rfl)
         refine one_ (i := 12) (N := some 32) mk_15 rfl rfl (one_of HT_.out (by kernel_rfl)) (by decide) (fun K hK => ?_)
         refine goes_ Tryd.func17 (by kernel_rfl) rfl #[.string a0, .int .i64 a2] (by rfl) rfl rfl (by (try simp only [qT, qC, qN]); first | done | rfl | (simp only [qD, qU]; rfl)) ?_
         with_reducible refine (brk_May.calls k a0 a2 t258 _ ?side1 A16.out).mono ?_
         (case side1 => exact Utf8Tabs_below HG.out (by repeat (first | (with_reducible first | exact HB.out | apply wA | apply wN | apply wD | refine wS ?_ GE254.out) | exact HB.out)))
         rintro e w38 ⟨rfl, hb⟩
         refine ⟨_, rfl, ?_⟩
         have n0_ := AM (blk_below (g := gb254) (o := .cells #[.int .i64 a3_0, .int .i64 a3_1, .int .i64 a3_2] 27 (0, 0)) (by (with_reducible repeat (first | refine vN ?_ _ | refine vD ?_ | refine vA ?_ _)); exact BK254.out) hb)
         have n1_ := AM (below_step (by repeat (first | (with_reducible first | exact HB.out | apply wA | apply wN | apply wD | refine wS ?_ GE254.out) | exact HB.out)) hb)
         clear BK254
         clear HB
         have BK254 := n0_
         have HB := n1_
         clear n0_ n1_
         (try clear hb)
         (try clear hb2)
         (try clear hk)
         (try clear hi)
         refine hK.out _ _ ⟨(blk_cell BK254.out 0).trans rfl, (blk_cell BK254.out 1).trans rfl, (blk_cell BK254.out 2).trans rfl⟩ (fun hHeld => ?_)
         clear hK K
         refine norm_ (a' := ?_) ?_ ?_
         rotate_left
         ·show Act.put _ (some 32) _ = _
          simp only [Act.put, qI, qz, qs, qi, qj]
          rfl
         refine one_ (i := 15) (N := some 35) mk_16 rfl rfl (one_of HT_.out (by kernel_rfl)) (by decide) (fun K hK => ?_)
         refine goes_ Tryd.func18 (by kernel_rfl) rfl #[.string a0, .int .i64 a2] (by rfl) rfl rfl (by (try simp only [qT, qC, qN]); first | done | rfl | (simp only [qD, qU]; rfl)) ?_
         with_reducible refine (targumref1_May.calls k a0 a2 t259 _ A17.out).mono ?_
         rintro e w' ⟨rfl, ⟨nd, rfl⟩⟩
         refine ⟨_, rfl, ?_⟩
         refine hK.out _ _ ⟨(blk_cell BK254.out 0).trans rfl, (blk_cell BK254.out 1).trans rfl, (blk_cell BK254.out 2).trans rfl⟩ (fun hHeld => ?_)
         clear hK K
         refine norm_ (a' := ?_) ?_ ?_
         rotate_left
         ·show Act.put _ (some 35) _ = _
          simp only [Act.put, qI, qz, qs, qi, qj]
          rfl
         refine P1 ?_ 16 36 mk_17 rfl rfl HT_.out (by kernel_rfl) (fun _ _ _ => id) (.inl ⟨by rfl, ?_⟩) ?_ ?_ ?_; rotate_left; (intro w'; go_simp; with_reducible rfl); rotate_left; (simp only [pa, qz, qs, qi, qj]; rfl)
         refine P1 ?_ 17 37 mk_18 rfl rfl HT_.out (by kernel_rfl) (fun _ _ _ => id) (.inl ⟨by rfl, ?_⟩) ?_ ?_ ?_; rotate_left; (intro w'; go_simp; with_reducible rfl); rotate_left; (simp only [pa, qz, qs, qi, qj]; rfl)
         refine P1 ?_ 18 38 mk_19 rfl rfl HT_.out (by kernel_rfl) (fun _ _ _ => id) (.inl ⟨by rfl, ?_⟩) ?_ ?_ ?_; rotate_left; (intro w'; go_simp; with_reducible rfl); rotate_left; (simp only [pa, qz, qs, qi, qj]; rfl)
         refine P1 ?_ 19 39 mk_20 rfl rfl HT_.out (by kernel_rfl) (fun _ _ _ => id) (.inl ⟨by rfl, ?_⟩) ?_ ?_ ?_; rotate_left; (intro w'; go_simp; with_reducible rfl); rotate_left; (simp only [pa, qz, qs, qi, qj]; rfl)
         refine P1 ?_ 21 41 mk_21 rfl rfl HT_.out (by kernel_rfl) (fun _ _ _ => id) (.inl ⟨by rfl, ?_⟩) ?_ ?_ ?_; rotate_left; (intro w'; go_simp; with_reducible rfl); rotate_left; (simp only [pa, qz, qs, qi, qj]; rfl)
         refine one_ (i := 20) (N := some 40) mk_22 rfl rfl (one_of HT_.out (by kernel_rfl)) (by decide) (fun K hK => ?_)
         refine goes_ Tryd.func16 (by kernel_rfl) rfl #[.string a0] (by rfl) rfl rfl (by (try simp only [qT, qC, qN]); first | done | rfl | (simp only [qD, qU]; rfl)) ?_
         with_reducible refine (brk_Check.calls k a0 t260 _ ?side1 A19.out).mono ?_
         (case side1 => exact Utf8Tabs_below HG.out (by repeat (first | (with_reducible first | exact HB.out | apply wA | apply wN | apply wD | refine wS ?_ GE254.out) | exact HB.out)))
         rintro e w39 ⟨rfl, hb⟩
         refine ⟨_, rfl, ?_⟩
         have n0_ := AM (blk_below (g := gb254) (o := .cells #[.int .i64 a3_0, .int .i64 a3_1, .int .i64 a3_2] 27 (0, 0)) (by (with_reducible repeat (first | refine vN ?_ _ | refine vD ?_ | refine vA ?_ _)); exact BK254.out) hb)
         have n1_ := AM (below_step (by repeat (first | (with_reducible first | exact HB.out | apply wA | apply wN | apply wD | refine wS ?_ GE254.out) | exact HB.out)) hb)
         clear BK254
         clear HB
         have BK254 := n0_
         have HB := n1_
         clear n0_ n1_
         (try clear hb)
         (try clear hb2)
         (try clear hk)
         (try clear hi)
         refine hK.out _ _ ⟨(blk_cell BK254.out 0).trans rfl, (blk_cell BK254.out 1).trans rfl, (blk_cell BK254.out 2).trans rfl⟩ (fun hHeld => ?_)
         clear hK K
         refine norm_ (a' := ?_) ?_ ?_
         rotate_left
         ·show Act.put _ (some 40) _ = _
          simp only [Act.put, qI, qz, qs, qi, qj]
          rfl
         refine one_ (i := 22) (N := some 42) mk_23 rfl rfl (one_of HT_.out (by kernel_rfl)) (by decide) (fun K hK => ?_)
         refine goes_ Tryd.func19 (by kernel_rfl) rfl #[.string a0] (by rfl) rfl rfl (by (try simp only [qT, qC, qN]); first | done | rfl | (simp only [qD, qU]; rfl)) ?_
         with_reducible refine (targumref1_Check.calls k a0 t261 _ A20.out).mono ?_
         rintro e w' ⟨rfl, ⟨nd, rfl⟩⟩
         refine ⟨_, rfl, ?_⟩
         refine hK.out _ _ ⟨(blk_cell BK254.out 0).trans rfl, (blk_cell BK254.out 1).trans rfl, (blk_cell BK254.out 2).trans rfl⟩ (fun hHeld => ?_)
         clear hK K
         refine norm_ (a' := ?_) ?_ ?_
         rotate_left
         ·show Act.put _ (some 42) _ = _
          simp only [Act.put, qI, qz, qs, qi, qj]
          rfl
         refine P1 ?_ 23 43 mk_24 rfl rfl HT_.out (by kernel_rfl) (fun _ _ _ => id) (.inl ⟨by rfl, ?_⟩) ?_ ?_ ?_; rotate_left; (intro w'; go_simp; with_reducible rfl); rotate_left; (simp only [pa, qz, qs, qi, qj]; rfl)
         refine P1 ?_ 24 44 mk_25 rfl rfl HT_.out (by kernel_rfl) (fun _ _ _ => id) (.inl ⟨by rfl, ?_⟩) ?_ ?_ ?_; rotate_left; (intro w'; go_simp; with_reducible rfl); rotate_left; (simp only [pa, qz, qs, qi, qj]; rfl)
         refine P1 ?_ 25 45 mk_26 rfl rfl HT_.out (by kernel_rfl) (fun _ _ _ => id) (.inl ⟨by rfl, ?_⟩) ?_ ?_ ?_; rotate_left; (intro w'; go_simp; with_reducible rfl); rotate_left; (simp only [pa, qz, qs, qi, qj]; rfl)
         refine P1 ?_ 26 46 mk_27 rfl rfl HT_.out (by kernel_rfl) (fun _ _ _ => id) (.inl ⟨by rfl, ?_⟩) ?_ ?_ ?_; rotate_left; (intro w'; go_simp; with_reducible rfl); rotate_left; (simp only [pa, qz, qs, qi, qj]; rfl)
         refine P1 ?_ 29 49 mk_28 rfl rfl HT_.out (by kernel_rfl) (fun _ _ _ => id) (.inl ⟨by rfl, ?_⟩) ?_ ?_ ?_; rotate_left; (intro w'; go_simp; with_reducible rfl); rotate_left; (simp only [pa, qz, qs, qi, qj]; rfl)
         refine T1 ?_ 27 47 mk_29 rfl rfl HT_.out HW_.out (by kernel_rfl) (fun _ _ _ => id) (.inl ⟨by rfl, ?_⟩) hHeld ?_ ?_ ?_; rotate_left; (rintro w' ⟨s0, s1, s2⟩; go_simp; with_reducible rfl); rotate_left; (simp only [pa, qz, qs, qi, qj]; rfl)
         refine T1 ?_ 30 50 mk_30 rfl rfl HT_.out HW_.out (by kernel_rfl) (fun _ _ _ => id) (.inl ⟨by rfl, ?_⟩) hHeld ?_ ?_ ?_; rotate_left; (rintro w' ⟨s0, s1, s2⟩; go_simp; with_reducible rfl); rotate_left; (simp only [pa, qz, qs, qi, qj]; rfl)
         refine one_ (i := 28) (N := some 48) mk_31 rfl rfl (one_of HT_.out (by kernel_rfl)) (by decide) (fun K hK => ?_)
         refine goes_ Tryd.func20 (by kernel_rfl) rfl #[.string a0, .agg #[.int .i64 a3_0, .int .i64 a3_1, .int .i64 a3_2]] (by rfl) rfl rfl (by (try simp only [qT, qC, qN]); first | done | rfl | (simp only [qD, qU]; rfl)) ?_
         with_reducible refine (brk_Indent.calls a0 a3_0 a3_1 a3_2 t262 _ A22.out).mono ?_
         rintro e w40 ⟨rfl, hb⟩
         refine ⟨_, rfl, ?_⟩
         have n0_ := AM (blk_below (g := gb254) (o := .cells #[.int .i64 a3_0, .int .i64 a3_1, .int .i64 a3_2] 27 (0, 0)) (by (with_reducible repeat (first | refine vN ?_ _ | refine vD ?_ | refine vA ?_ _)); exact BK254.out) hb)
         have n1_ := AM (below_step (by repeat (first | (with_reducible first | exact HB.out | apply wA | apply wN | apply wD | refine wS ?_ GE254.out) | exact HB.out)) hb)
         clear BK254
         clear HB
         have BK254 := n0_
         have HB := n1_
         clear n0_ n1_
         (try clear hb)
         (try clear hb2)
         (try clear hk)
         (try clear hi)
         refine hK.out _ _ ⟨(blk_cell BK254.out 0).trans rfl, (blk_cell BK254.out 1).trans rfl, (blk_cell BK254.out 2).trans rfl⟩ (fun hHeld => ?_)
         clear hK K
         refine norm_ (a' := ?_) ?_ ?_
         rotate_left
         ·show Act.put _ (some 48) _ = _
          simp only [Act.put, qI, qz, qs, qi, qj]
          rfl
         refine one_ (i := 31) (N := some 51) mk_32 rfl rfl (one_of HT_.out (by kernel_rfl)) (by decide) (fun K hK => ?_)
         refine goes_ Tryd.func21 (by kernel_rfl) rfl #[.string a0, .agg #[.int .i64 a3_0, .int .i64 a3_1, .int .i64 a3_2]] (by rfl) rfl rfl (by (try simp only [qT, qC, qN]); first | done | rfl | (simp only [qD, qU]; rfl)) ?_
         with_reducible refine (targumref1_Indent.calls k a0 a3_0 a3_1 a3_2 t263 _ A23.out).mono ?_
         rintro e w41 ⟨rfl, hb⟩
         refine ⟨_, rfl, ?_⟩
         have n0_ := AM (blk_below (g := gb254) (o := .cells #[.int .i64 a3_0, .int .i64 a3_1, .int .i64 a3_2] 27 (0, 0)) (by (with_reducible repeat (first | refine vN ?_ _ | refine vD ?_ | refine vA ?_ _)); exact BK254.out) hb)
         have n1_ := AM (below_step (by repeat (first | (with_reducible first | exact HB.out | apply wA | apply wN | apply wD | refine wS ?_ GE254.out) | exact HB.out)) hb)
         clear BK254
         clear HB
         have BK254 := n0_
         have HB := n1_
         clear n0_ n1_
         (try clear hb)
         (try clear hb2)
         (try clear hk)
         (try clear hi)
         refine hK.out _ _ ⟨(blk_cell BK254.out 0).trans rfl, (blk_cell BK254.out 1).trans rfl, (blk_cell BK254.out 2).trans rfl⟩ (fun hHeld => ?_)
         clear hK K
         refine norm_ (a' := ?_) ?_ ?_
         rotate_left
         ·show Act.put _ (some 51) _ = _
          simp only [Act.put, qI, qz, qs, qi, qj]
          rfl
         refine P1 ?_ 32 52 mk_33 rfl rfl HT_.out (by kernel_rfl) (fun _ _ _ => id) (.inl ⟨by rfl, ?_⟩) ?_ ?_ ?_; rotate_left; (intro w'; go_simp; with_reducible rfl); rotate_left; (simp only [pa, qz, qs, qi, qj]; rfl)
         refine P1 ?_ 33 53 mk_34 rfl rfl HT_.out (by kernel_rfl) (fun _ _ _ => id) (.inl ⟨by rfl, ?_⟩) ?_ ?_ ?_; rotate_left; (intro w'; go_simp; with_reducible rfl); rotate_left; (simp only [pa, qz, qs, qi, qj]; rfl)
         refine P1 ?_ 34 54 mk_35 rfl rfl HT_.out (by kernel_rfl) (fun _ _ _ => id) (.inl ⟨by rfl, ?_⟩) ?_ ?_ ?_; rotate_left; (intro w'; go_simp; with_reducible rfl); rotate_left; (simp only [pa, qz, qs, qi, qj]; rfl)
         refine P1 ?_ 35 55 mk_36 rfl rfl HT_.out (by kernel_rfl) (fun _ _ _ => id) (.inl ⟨by rfl, ?_⟩) ?_ ?_ ?_; rotate_left; (intro w'; go_simp; with_reducible rfl); rotate_left; (simp only [pa, qz, qs, qi, qj]; rfl)
         refine P1 ?_ 38 58 mk_37 rfl rfl HT_.out (by kernel_rfl) (fun _ _ _ => id) (.inl ⟨by rfl, ?_⟩) ?_ ?_ ?_; rotate_left; (intro w'; go_simp; with_reducible rfl); rotate_left; (simp only [pa, qz, qs, qi, qj]; rfl)
         refine T1 ?_ 36 56 mk_38 rfl rfl HT_.out HW_.out (by kernel_rfl) (fun _ _ _ => id) (.inl ⟨by rfl, ?_⟩) hHeld ?_ ?_ ?_; rotate_left; (rintro w' ⟨s0, s1, s2⟩; go_simp; with_reducible rfl); rotate_left; (simp only [pa, qz, qs, qi, qj]; rfl)
         refine T1 ?_ 39 59 mk_39 rfl rfl HT_.out HW_.out (by kernel_rfl) (fun _ _ _ => id) (.inl ⟨by rfl, ?_⟩) hHeld ?_ ?_ ?_; rotate_left; (rintro w' ⟨s0, s1, s2⟩; go_simp; with_reducible rfl); rotate_left; (simp only [pa, qz, qs, qi, qj]; rfl)
         refine one_ (i := 37) (N := some 57) mk_40 rfl rfl (one_of HT_.out (by kernel_rfl)) (by decide) (fun K hK => ?_)
         refine goes_ Tryd.func22 (by kernel_rfl) rfl #[.string a0, .agg #[.int .i64 a3_0, .int .i64 a3_1, .int .i64 a3_2]] (by rfl) rfl rfl (by (try simp only [qT, qC, qN]); first | done | rfl | (simp only [qD, qU]; rfl)) ?_
         with_reducible refine (brk_Blank.calls a0 a3_0 a3_1 a3_2 t264 _ A25.out).mono ?_
         rintro e w42 ⟨rfl, hb⟩
         refine ⟨_, rfl, ?_⟩
         have n0_ := AM (blk_below (g := gb254) (o := .cells #[.int .i64 a3_0, .int .i64 a3_1, .int .i64 a3_2] 27 (0, 0)) (by (with_reducible repeat (first | refine vN ?_ _ | refine vD ?_ | refine vA ?_ _)); exact BK254.out) hb)
         have n1_ := AM (below_step (by repeat (first | (with_reducible first | exact HB.out | apply wA | apply wN | apply wD | refine wS ?_ GE254.out) | exact HB.out)) hb)
         clear BK254
         clear HB
         have BK254 := n0_
         have HB := n1_
         clear n0_ n1_
         (try clear hb)
         (try clear hb2)
         (try clear hk)
         (try clear hi)
         refine hK.out _ _ ⟨(blk_cell BK254.out 0).trans rfl, (blk_cell BK254.out 1).trans rfl, (blk_cell BK254.out 2).trans rfl⟩ (fun hHeld => ?_)
         clear hK K
         refine norm_ (a' := ?_) ?_ ?_
         rotate_left
         ·show Act.put _ (some 57) _ = _
          simp only [Act.put, qI, qz, qs, qi, qj]
          rfl
         refine one_ (i := 40) (N := some 60) mk_41 rfl rfl (one_of HT_.out (by kernel_rfl)) (by decide) (fun K hK => ?_)
         refine goes_ Tryd.func23 (by kernel_rfl) rfl #[.string a0, .agg #[.int .i64 a3_0, .int .i64 a3_1, .int .i64 a3_2]] (by rfl) rfl rfl (by (try simp only [qT, qC, qN]); first | done | rfl | (simp only [qD, qU]; rfl)) ?_
         with_reducible refine (targumref1_Blank.calls k a0 a3_0 a3_1 a3_2 t265 _ A26.out).mono ?_
         rintro e w43 ⟨rfl, hb⟩
         refine ⟨_, rfl, ?_⟩
         have n0_ := AM (blk_below (g := gb254) (o := .cells #[.int .i64 a3_0, .int .i64 a3_1, .int .i64 a3_2] 27 (0, 0)) (by (with_reducible repeat (first | refine vN ?_ _ | refine vD ?_ | refine vA ?_ _)); exact BK254.out) hb)
         have n1_ := AM (below_step (by repeat (first | (with_reducible first | exact HB.out | apply wA | apply wN | apply wD | refine wS ?_ GE254.out) | exact HB.out)) hb)
         clear BK254
         clear HB
         have BK254 := n0_
         have HB := n1_
         clear n0_ n1_
         (try clear hb)
         (try clear hb2)
         (try clear hk)
         (try clear hi)
         refine hK.out _ _ ⟨(blk_cell BK254.out 0).trans rfl, (blk_cell BK254.out 1).trans rfl, (blk_cell BK254.out 2).trans rfl⟩ (fun hHeld => ?_)
         clear hK K
         refine norm_ (a' := ?_) ?_ ?_
         rotate_left
         ·show Act.put _ (some 60) _ = _
          simp only [Act.put, qI, qz, qs, qi, qj]
          rfl
         refine P1 ?_ 41 61 mk_42 rfl rfl HT_.out (by kernel_rfl) (fun _ _ _ => id) (.inl ⟨by rfl, ?_⟩) ?_ ?_ ?_; rotate_left; (intro w'; go_simp; with_reducible rfl); rotate_left; (simp only [pa, qz, qs, qi, qj]; rfl)
         refine P1 ?_ 42 62 mk_43 rfl rfl HT_.out (by kernel_rfl) (fun _ _ _ => id) (.inl ⟨by rfl, ?_⟩) ?_ ?_ ?_; rotate_left; (intro w'; go_simp; with_reducible rfl); rotate_left; (simp only [pa, qz, qs, qi, qj]; rfl)
         refine P1 ?_ 43 63 mk_44 rfl rfl HT_.out (by kernel_rfl) (fun _ _ _ => id) (.inl ⟨by rfl, ?_⟩) ?_ ?_ ?_; rotate_left; (intro w'; go_simp; with_reducible rfl); rotate_left; (simp only [pa, qz, qs, qi, qj]; rfl)
         refine P1 ?_ 44 64 mk_45 rfl rfl HT_.out (by kernel_rfl) (fun _ _ _ => id) (.inl ⟨by rfl, ?_⟩) ?_ ?_ ?_; rotate_left; (intro w'; go_simp; with_reducible rfl); rotate_left; (simp only [pa, qz, qs, qi, qj]; rfl)
         refine P1 ?_ 47 67 mk_53 rfl rfl HT_.out (by kernel_rfl) (fun _ _ _ => id) (.inl ⟨by rfl, ?_⟩) ?_ ?_ ?_; rotate_left; (intro w'; go_simp; with_reducible rfl); rotate_left; (simp only [pa, qz, qs, qi, qj]; rfl)
         refine T1 ?_ 45 65 mk_54 rfl rfl HT_.out HW_.out (by kernel_rfl) (fun _ _ _ => id) (.inl ⟨by rfl, ?_⟩) hHeld ?_ ?_ ?_; rotate_left; (rintro w' ⟨s0, s1, s2⟩; go_simp; with_reducible rfl); rotate_left; (simp only [pa, qz, qs, qi, qj]; rfl)
         refine T1 ?_ 48 68 mk_55 rfl rfl HT_.out HW_.out (by kernel_rfl) (fun _ _ _ => id) (.inl ⟨by rfl, ?_⟩) hHeld ?_ ?_ ?_; rotate_left; (rintro w' ⟨s0, s1, s2⟩; go_simp; with_reducible rfl); rotate_left; (simp only [pa, qz, qs, qi, qj]; rfl)
         refine one_ (i := 46) (N := some 66) mk_49 rfl rfl (one_of HT_.out (by kernel_rfl)) (by decide) (fun K hK => ?_)
         refine goes_ Tryd.func24 (by kernel_rfl) rfl #[.string a0, .agg #[.int .i64 a3_0, .int .i64 a3_1, .int .i64 a3_2]] (by rfl) rfl rfl (by (try simp only [qT, qC, qN]); first | done | rfl | (simp only [qD, qU]; rfl)) ?_
         with_reducible refine (brk_Marker.calls k a0 a3_0 a3_1 a3_2 t266 _ A35.out).mono ?_
         rintro e w44 ⟨rfl, hb⟩
         refine ⟨_, rfl, ?_⟩
         have n0_ := AM (blk_below (g := gb254) (o := .cells #[.int .i64 a3_0, .int .i64 a3_1, .int .i64 a3_2] 27 (0, 0)) (by (with_reducible repeat (first | refine vN ?_ _ | refine vD ?_ | refine vA ?_ _)); exact BK254.out) hb)
         have n1_ := AM (below_step (by repeat (first | (with_reducible first | exact HB.out | apply wA | apply wN | apply wD | refine wS ?_ GE254.out) | exact HB.out)) hb)
         clear BK254
         clear HB
         have BK254 := n0_
         have HB := n1_
         clear n0_ n1_
         (try clear hb)
         (try clear hb2)
         (try clear hk)
         (try clear hi)
         refine hK.out _ _ ⟨(blk_cell BK254.out 0).trans rfl, (blk_cell BK254.out 1).trans rfl, (blk_cell BK254.out 2).trans rfl⟩ (fun hHeld => ?_)
         clear hK K
         refine norm_ (a' := ?_) ?_ ?_
         rotate_left
         ·show Act.put _ (some 66) _ = _
          simp only [Act.put, qI, qz, qs, qi, qj]
          rfl
         refine one_ (i := 49) (N := some 69) mk_50 rfl rfl (one_of HT_.out (by kernel_rfl)) (by decide) (fun K hK => ?_)
         refine goes_ Tryd.func25 (by kernel_rfl) rfl #[.string a0, .agg #[.int .i64 a3_0, .int .i64 a3_1, .int .i64 a3_2]] (by rfl) rfl rfl (by (try simp only [qT, qC, qN]); first | done | rfl | (simp only [qD, qU]; rfl)) ?_
         with_reducible refine (targumref1_Marker.calls k a0 a3_0 a3_1 a3_2 t267 _ A36.out).mono ?_
         rintro e w45 ⟨rfl, hb⟩
         refine ⟨_, rfl, ?_⟩
         have n0_ := AM (blk_below (g := gb254) (o := .cells #[.int .i64 a3_0, .int .i64 a3_1, .int .i64 a3_2] 27 (0, 0)) (by (with_reducible repeat (first | refine vN ?_ _ | refine vD ?_ | refine vA ?_ _)); exact BK254.out) hb)
         have n1_ := AM (below_step (by repeat (first | (with_reducible first | exact HB.out | apply wA | apply wN | apply wD | refine wS ?_ GE254.out) | exact HB.out)) hb)
         clear BK254
         clear HB
         have BK254 := n0_
         have HB := n1_
         clear n0_ n1_
         (try clear hb)
         (try clear hb2)
         (try clear hk)
         (try clear hi)
         refine hK.out _ _ ⟨(blk_cell BK254.out 0).trans rfl, (blk_cell BK254.out 1).trans rfl, (blk_cell BK254.out 2).trans rfl⟩ (fun hHeld => ?_)
         clear hK K
         refine norm_ (a' := ?_) ?_ ?_
         rotate_left
         ·show Act.put _ (some 69) _ = _
          simp only [Act.put, qI, qz, qs, qi, qj]
          rfl
         refine P1 ?_ 50 70 mk_51 rfl rfl HT_.out (by kernel_rfl) (fun _ _ _ => id) (.inl ⟨by rfl, ?_⟩) ?_ ?_ ?_; rotate_left; (intro w'; go_simp; with_reducible rfl); rotate_left; (simp only [pa, qz, qs, qi, qj]; rfl)
         refine P1 ?_ 51 71 mk_52 rfl rfl HT_.out (by kernel_rfl) (fun _ _ _ => id) (.inl ⟨by rfl, ?_⟩) ?_ ?_ ?_; rotate_left; (intro w'; go_simp; with_reducible rfl); rotate_left; (simp only [pa, qz, qs, qi, qj]; rfl)
         refine done_ (done_of HT_.out (by kernel_rfl)) ?_
         try go_wp2
         go_meet
         case rel => exact ⟨_, ((t266 != t267)), (by first | rfl | (simp; done) | (simp [*]; done) | (simp [wrap64]; done)), H', ⟨by first | omega | exact Nat.le_refl _⟩, ⟨by (with_reducible repeat (first | refine vN ?_ _ | refine vD ?_ | refine vA ?_ _)); exact BK254.out⟩, ⟨by repeat (first | (with_reducible first | exact HB.out | apply wA | apply wN | apply wD | refine wS ?_ GE254.out) | exact HB.out)⟩⟩
       ·rw [if_neg c24] at H
        have c24b0 : (t262 == t263) = false := beq_eq_false_iff_ne.mpr c24
        have c24b1 : (t262 != t263) = true := bne_iff_ne.mpr c24
        have H' := AM H
        clear H
        try go_wp2
        have n0_ := AM (vD BK254.out)
        have n1_ := AM (wD HB.out)
        clear BK254
        clear HB
        have BK254 := n0_
        have HB := n1_
        clear n0_ n1_
        refine start_ (n := 52) (S := fun w' => w'.cell? ⟨gb254, 0, none⟩ = some (.int .i64 a3_0) ∧ w'.cell? ⟨gb254, 1, none⟩ = some (.int .i64 a3_1) ∧ w'.cell? ⟨gb254, 2, none⟩ = some (.int .i64 a3_2)) (ds := []) mk_0 (by kernel_rfl) rfl rfl ⟨(blk_cell BK254.out 0).trans rfl, (blk_cell BK254.out 1).trans rfl, (blk_cell BK254.out 2).trans rfl⟩ (fun hHeld => ?_); refine with_tabW targumlaw2_BrkTells.tab5 targumlaw2_BrkTells.bits5 (fun HT_ HW_ => ?_)
        generalize w12.drew = w46 at BK254 HB hHeld ⊢
        refine P1 ?_ 0 20 mk_1 rfl rfl HT_.out (by kernel_rfl) (fun _ _ _ => id) (.inl ⟨by rfl, ?_⟩) ?_ ?_ ?_; rotate_left; (intro w'; go_simp; with_reducible rfl); rotate_left; (simp only [pa, qz, qs, qi, qj]; rfl)
        refine P1 ?_ 1 21 mk_2 rfl rfl HT_.out (by kernel_rfl) (fun _ _ _ => id) (.inl ⟨by rfl, ?_⟩) ?_ ?_ ?_; rotate_left; (intro w'; go_simp; with_reducible rfl); rotate_left; (simp only [pa, qz, qs, qi, qj]; rfl)
        refine P1 ?_ 2 22 mk_3 rfl rfl HT_.out (by kernel_rfl) (fun _ _ _ => id) (.inl ⟨by rfl, ?_⟩) ?_ ?_ ?_; rotate_left; (intro w'; go_simp; with_reducible rfl); rotate_left; (simp only [pa, qz, qs, qi, qj]; rfl)
        refine P1 ?_ 4 24 mk_4 rfl rfl HT_.out (by kernel_rfl) (fun _ _ _ => id) (.inl ⟨by rfl, ?_⟩) ?_ ?_ ?_; rotate_left; (intro w'; go_simp; with_reducible rfl); rotate_left; (simp only [pa, qz, qs, qi, qj]; rfl)
        refine P1 ?_ 5 25 mk_5 rfl rfl HT_.out (by kernel_rfl) (fun _ _ _ => id) (.inl ⟨by rfl, ?_⟩) ?_ ?_ ?_; rotate_left; (intro w'; go_simp; with_reducible rfl); rotate_left; (simp only [pa, qz, qs, qi, qj]; rfl)
        refine P1 ?_ 6 26 mk_6 rfl rfl HT_.out (by kernel_rfl) (fun _ _ _ => id) (.inl ⟨by rfl, ?_⟩) ?_ ?_ ?_; rotate_left; (intro w'; go_simp; with_reducible rfl); rotate_left; (simp only [pa, qz, qs, qi, qj]; rfl)
        refine one_ (i := 3) (N := some 23) mk_7 rfl rfl (one_of HT_.out (by kernel_rfl)) (by decide) (fun K hK => ?_)
        refine goes_ Tryd.func12 (by kernel_rfl) rfl #[.int .i64 a1, .string a0, .int .i64 a2] (by rfl) rfl rfl (by (try simp only [qT, qC, qN]); first | done | rfl | (simp only [qD, qU]; rfl)) ?_
        with_reducible refine (brk_Break.calls k a1 a0 a2 t256 _ A13.out).mono ?_
        rintro e w' ⟨rfl, ⟨nd, rfl⟩⟩
        refine ⟨_, rfl, ?_⟩
        refine hK.out _ _ ⟨(blk_cell BK254.out 0).trans rfl, (blk_cell BK254.out 1).trans rfl, (blk_cell BK254.out 2).trans rfl⟩ (fun hHeld => ?_)
        clear hK K
        refine norm_ (a' := ?_) ?_ ?_
        rotate_left
        ·show Act.put _ (some 23) _ = _
         simp only [Act.put, qI, qz, qs, qi, qj]
         rfl
        refine one_ (i := 7) (N := some 27) mk_8 rfl rfl (one_of HT_.out (by kernel_rfl)) (by decide) (fun K hK => ?_)
        refine goes_ Tryd.func15 (by kernel_rfl) rfl #[.int .i64 a1, .string a0, .int .i64 a2] (by rfl) rfl rfl (by (try simp only [qT, qC, qN]); first | done | rfl | (simp only [qD, qU]; rfl)) ?_
        with_reducible refine (targumref1_Break.calls k a1 a0 a2 t257 _ A14.out).mono ?_
        rintro e w' ⟨rfl, ⟨nd, rfl⟩⟩
        refine ⟨_, rfl, ?_⟩
        refine hK.out _ _ ⟨(blk_cell BK254.out 0).trans rfl, (blk_cell BK254.out 1).trans rfl, (blk_cell BK254.out 2).trans rfl⟩ (fun hHeld => ?_)
        clear hK K
        refine norm_ (a' := ?_) ?_ ?_
        rotate_left
        ·show Act.put _ (some 27) _ = _
         simp only [Act.put, qI, qz, qs, qi, qj]
         rfl
        refine P1 ?_ 8 28 mk_9 rfl rfl HT_.out (by kernel_rfl) (fun _ _ _ => id) (.inl ⟨by rfl, ?_⟩) ?_ ?_ ?_; rotate_left; (intro w'; go_simp; with_reducible rfl); rotate_left; (simp only [pa, qz, qs, qi, qj]; rfl)
        refine P1 ?_ 9 29 mk_10 rfl rfl HT_.out (by kernel_rfl) (fun _ _ _ => id) (.inl ⟨by rfl, ?_⟩) ?_ ?_ ?_; rotate_left; (intro w'; go_simp; with_reducible rfl); rotate_left; (simp only [pa, qz, qs, qi, qj]; rfl)
        refine P1 ?_ 10 30 mk_11 rfl rfl HT_.out (by kernel_rfl) (fun _ _ _ => id) (.inl ⟨by rfl, ?_⟩) ?_ ?_ ?_; rotate_left; (intro w'; go_simp; with_reducible rfl); rotate_left; (simp only [pa, qz, qs, qi, qj]; rfl)
        refine P1 ?_ 11 31 mk_12 rfl rfl HT_.out (by kernel_rfl) (fun _ _ _ => id) (.inl ⟨by rfl, ?_⟩) ?_ ?_ ?_; rotate_left; (intro w'; go_simp; with_reducible rfl); rotate_left; (simp only [pa, qz, qs, qi, qj]; rfl)
        refine P1 ?_ 13 33 mk_13 rfl rfl HT_.out (by kernel_rfl) (fun _ _ _ => id) (.inl ⟨by rfl, ?_⟩) ?_ ?_ ?_; rotate_left; (intro w'; go_simp; with_reducible rfl); rotate_left; (simp only [pa, qz, qs, qi, qj]; rfl)
        refine P1 ?_ 14 34 mk_14 rfl rfl HT_.out (by kernel_rfl) (fun _ _ _ => id) (.inl ⟨by rfl, ?_⟩) ?_ ?_ ?_; rotate_left; (intro w'; go_simp; with_reducible rfl); rotate_left; (simp only [pa, qz, qs, qi, qj]; rfl)
        refine one_ (i := 12) (N := some 32) mk_15 rfl rfl (one_of HT_.out (by kernel_rfl)) (by decide) (fun K hK => ?_)
        refine goes_ Tryd.func17 (by kernel_rfl) rfl #[.string a0, .int .i64 a2] (by rfl) rfl rfl (by (try simp only [qT, qC, qN]); first | done | rfl | (simp only [qD, qU]; rfl)) ?_
        with_reducible refine (brk_May.calls k a0 a2 t258 _ ?side1 A16.out).mono ?_
        (case side1 => exact Utf8Tabs_below HG.out (by repeat (first | (with_reducible first | exact HB.out | apply wA | apply wN | apply wD | refine wS ?_ GE254.out) | exact HB.out)))
        rintro e w47 ⟨rfl, hb⟩
        refine ⟨_, rfl, ?_⟩
        have n0_ := AM (blk_below (g := gb254) (o := .cells #[.int .i64 a3_0, .int .i64 a3_1, .int .i64 a3_2] 27 (0, 0)) (by (with_reducible repeat (first | refine vN ?_ _ | refine vD ?_ | refine vA ?_ _)); exact BK254.out) hb)
        have n1_ := AM (below_step (by repeat (first | (with_reducible first | exact HB.out | apply wA | apply wN | apply wD | refine wS ?_ GE254.out) | exact HB.out)) hb)
        clear BK254
        clear HB
        have BK254 := n0_
        have HB := n1_
        clear n0_ n1_
        (try clear hb)
        (try clear hb2)
        (try clear hk)
        (try clear hi)
        refine hK.out _ _ ⟨(blk_cell BK254.out 0).trans rfl, (blk_cell BK254.out 1).trans rfl, (blk_cell BK254.out 2).trans rfl⟩ (fun hHeld => ?_)
        clear hK K
        refine norm_ (a' := ?_) ?_ ?_
        rotate_left
        ·show Act.put _ (some 32) _ = _
         simp only [Act.put, qI, qz, qs, qi, qj]
         rfl
        refine one_ (i := 15) (N := some 35) mk_16 rfl rfl (one_of HT_.out (by kernel_rfl)) (by decide) (fun K hK => ?_)
        refine goes_ Tryd.func18 (by kernel_rfl) rfl #[.string a0, .int .i64 a2] (by rfl) rfl rfl (by (try simp only [qT, qC, qN]); first | done | rfl | (simp only [qD, qU]; rfl)) ?_
        with_reducible refine (targumref1_May.calls k a0 a2 t259 _ A17.out).mono ?_
        rintro e w' ⟨rfl, ⟨nd, rfl⟩⟩
        refine ⟨_, rfl, ?_⟩
        refine hK.out _ _ ⟨(blk_cell BK254.out 0).trans rfl, (blk_cell BK254.out 1).trans rfl, (blk_cell BK254.out 2).trans rfl⟩ (fun hHeld => ?_)
        clear hK K
        refine norm_ (a' := ?_) ?_ ?_
        rotate_left
        ·show Act.put _ (some 35) _ = _
         simp only [Act.put, qI, qz, qs, qi, qj]
         rfl
        refine P1 ?_ 16 36 mk_17 rfl rfl HT_.out (by kernel_rfl) (fun _ _ _ => id) (.inl ⟨by rfl, ?_⟩) ?_ ?_ ?_; rotate_left; (intro w'; go_simp; with_reducible rfl); rotate_left; (simp only [pa, qz, qs, qi, qj]; rfl)
        refine P1 ?_ 17 37 mk_18 rfl rfl HT_.out (by kernel_rfl) (fun _ _ _ => id) (.inl ⟨by rfl, ?_⟩) ?_ ?_ ?_; rotate_left; (intro w'; go_simp; with_reducible rfl); rotate_left; (simp only [pa, qz, qs, qi, qj]; rfl)
        refine P1 ?_ 18 38 mk_19 rfl rfl HT_.out (by kernel_rfl) (fun _ _ _ => id) (.inl ⟨by rfl, ?_⟩) ?_ ?_ ?_; rotate_left; (intro w'; go_simp; with_reducible rfl); rotate_left; (simp only [pa, qz, qs, qi, qj]; rfl)
        refine P1 ?_ 19 39 mk_20 rfl rfl HT_.out (by kernel_rfl) (fun _ _ _ => id) (.inl ⟨by rfl, ?_⟩) ?_ ?_ ?_; rotate_left; (intro w'; go_simp; with_reducible rfl); rotate_left; (simp only [pa, qz, qs, qi, qj]; rfl)
        refine P1 ?_ 21 41 mk_21 rfl rfl HT_.out (by kernel_rfl) (fun _ _ _ => id) (.inl ⟨by rfl, ?_⟩) ?_ ?_ ?_; rotate_left; (intro w'; go_simp; with_reducible rfl); rotate_left; (simp only [pa, qz, qs, qi, qj]; rfl)
        refine one_ (i := 20) (N := some 40) mk_22 rfl rfl (one_of HT_.out (by kernel_rfl)) (by decide) (fun K hK => ?_)
        refine goes_ Tryd.func16 (by kernel_rfl) rfl #[.string a0] (by rfl) rfl rfl (by (try simp only [qT, qC, qN]); first | done | rfl | (simp only [qD, qU]; rfl)) ?_
        with_reducible refine (brk_Check.calls k a0 t260 _ ?side1 A19.out).mono ?_
        (case side1 => exact Utf8Tabs_below HG.out (by repeat (first | (with_reducible first | exact HB.out | apply wA | apply wN | apply wD | refine wS ?_ GE254.out) | exact HB.out)))
        rintro e w48 ⟨rfl, hb⟩
        refine ⟨_, rfl, ?_⟩
        have n0_ := AM (blk_below (g := gb254) (o := .cells #[.int .i64 a3_0, .int .i64 a3_1, .int .i64 a3_2] 27 (0, 0)) (by (with_reducible repeat (first | refine vN ?_ _ | refine vD ?_ | refine vA ?_ _)); exact BK254.out) hb)
        have n1_ := AM (below_step (by repeat (first | (with_reducible first | exact HB.out | apply wA | apply wN | apply wD | refine wS ?_ GE254.out) | exact HB.out)) hb)
        clear BK254
        clear HB
        have BK254 := n0_
        have HB := n1_
        clear n0_ n1_
        (try clear hb)
        (try clear hb2)
        (try clear hk)
        (try clear hi)
        refine hK.out _ _ ⟨(blk_cell BK254.out 0).trans rfl, (blk_cell BK254.out 1).trans rfl, (blk_cell BK254.out 2).trans rfl⟩ (fun hHeld => ?_)
        clear hK K
        refine norm_ (a' := ?_) ?_ ?_
        rotate_left
        ·show Act.put _ (some 40) _ = _
         simp only [Act.put, qI, qz, qs, qi, qj]
         rfl
        refine one_ (i := 22) (N := some 42) mk_23 rfl rfl (one_of HT_.out (by kernel_rfl)) (by decide) (fun K hK => ?_)
        refine goes_ Tryd.func19 (by kernel_rfl) rfl #[.string a0] (by rfl) rfl rfl (by (try simp only [qT, qC, qN]); first | done | rfl | (simp only [qD, qU]; rfl)) ?_
        with_reducible refine (targumref1_Check.calls k a0 t261 _ A20.out).mono ?_
        rintro e w' ⟨rfl, ⟨nd, rfl⟩⟩
        refine ⟨_, rfl, ?_⟩
        refine hK.out _ _ ⟨(blk_cell BK254.out 0).trans rfl, (blk_cell BK254.out 1).trans rfl, (blk_cell BK254.out 2).trans rfl⟩ (fun hHeld => ?_)
        clear hK K
        refine norm_ (a' := ?_) ?_ ?_
        rotate_left
        ·show Act.put _ (some 42) _ = _
         simp only [Act.put, qI, qz, qs, qi, qj]
         rfl
        refine P1 ?_ 23 43 mk_24 rfl rfl HT_.out (by kernel_rfl) (fun _ _ _ => id) (.inl ⟨by rfl, ?_⟩) ?_ ?_ ?_; rotate_left; (intro w'; go_simp; with_reducible rfl); rotate_left; (simp only [pa, qz, qs, qi, qj]; rfl)
        refine P1 ?_ 24 44 mk_25 rfl rfl HT_.out (by kernel_rfl) (fun _ _ _ => id) (.inl ⟨by rfl, ?_⟩) ?_ ?_ ?_; rotate_left; (intro w'; go_simp; with_reducible rfl); rotate_left; (simp only [pa, qz, qs, qi, qj]; rfl)
        refine P1 ?_ 25 45 mk_26 rfl rfl HT_.out (by kernel_rfl) (fun _ _ _ => id) (.inl ⟨by rfl, ?_⟩) ?_ ?_ ?_; rotate_left; (intro w'; go_simp; with_reducible rfl); rotate_left; (simp only [pa, qz, qs, qi, qj]; rfl)
        refine P1 ?_ 26 46 mk_27 rfl rfl HT_.out (by kernel_rfl) (fun _ _ _ => id) (.inl ⟨by rfl, ?_⟩) ?_ ?_ ?_; rotate_left; (intro w'; go_simp; with_reducible rfl); rotate_left; (simp only [pa, qz, qs, qi, qj]; rfl)
        refine P1 ?_ 29 49 mk_28 rfl rfl HT_.out (by kernel_rfl) (fun _ _ _ => id) (.inl ⟨by rfl, ?_⟩) ?_ ?_ ?_; rotate_left; (intro w'; go_simp; with_reducible rfl); rotate_left; (simp only [pa, qz, qs, qi, qj]; rfl)
        refine T1 ?_ 27 47 mk_29 rfl rfl HT_.out HW_.out (by kernel_rfl) (fun _ _ _ => id) (.inl ⟨by rfl, ?_⟩) hHeld ?_ ?_ ?_; rotate_left; (rintro w' ⟨s0, s1, s2⟩; go_simp; with_reducible rfl); rotate_left; (simp only [pa, qz, qs, qi, qj]; rfl)
        refine T1 ?_ 30 50 mk_30 rfl rfl HT_.out HW_.out (by kernel_rfl) (fun _ _ _ => id) (.inl ⟨by rfl, ?_⟩) hHeld ?_ ?_ ?_; rotate_left; (rintro w' ⟨s0, s1, s2⟩; go_simp; with_reducible rfl); rotate_left; (simp only [pa, qz, qs, qi, qj]; rfl)
        refine one_ (i := 28) (N := some 48) mk_31 rfl rfl (one_of HT_.out (by kernel_rfl)) (by decide) (fun K hK => ?_)
        refine goes_ Tryd.func20 (by kernel_rfl) rfl #[.string a0, .agg #[.int .i64 a3_0, .int .i64 a3_1, .int .i64 a3_2]] (by rfl) rfl rfl (by (try simp only [qT, qC, qN]); first | done | rfl | (simp only [qD, qU]; rfl)) ?_
        with_reducible refine (brk_Indent.calls a0 a3_0 a3_1 a3_2 t262 _ A22.out).mono ?_
        rintro e w49 ⟨rfl, hb⟩
        refine ⟨_, rfl, ?_⟩
        have n0_ := AM (blk_below (g := gb254) (o := .cells #[.int .i64 a3_0, .int .i64 a3_1, .int .i64 a3_2] 27 (0, 0)) (by (with_reducible repeat (first | refine vN ?_ _ | refine vD ?_ | refine vA ?_ _)); exact BK254.out) hb)
        have n1_ := AM (below_step (by repeat (first | (with_reducible first | exact HB.out | apply wA | apply wN | apply wD | refine wS ?_ GE254.out) | exact HB.out)) hb)
        clear BK254
        clear HB
        have BK254 := n0_
        have HB := n1_
        clear n0_ n1_
        (try clear hb)
        (try clear hb2)
        (try clear hk)
        (try clear hi)
        refine hK.out _ _ ⟨(blk_cell BK254.out 0).trans rfl, (blk_cell BK254.out 1).trans rfl, (blk_cell BK254.out 2).trans rfl⟩ (fun hHeld => ?_)
        clear hK K
        refine norm_ (a' := ?_) ?_ ?_
        rotate_left
        ·show Act.put _ (some 48) _ = _
         simp only [Act.put, qI, qz, qs, qi, qj]
         rfl
        refine one_ (i := 31) (N := some 51) mk_32 rfl rfl (one_of HT_.out (by kernel_rfl)) (by decide) (fun K hK => ?_)
        refine goes_ Tryd.func21 (by kernel_rfl) rfl #[.string a0, .agg #[.int .i64 a3_0, .int .i64 a3_1, .int .i64 a3_2]] (by rfl) rfl rfl (by (try simp only [qT, qC, qN]); first | done | rfl | (simp only [qD, qU]; rfl)) ?_
        with_reducible refine (targumref1_Indent.calls k a0 a3_0 a3_1 a3_2 t263 _ A23.out).mono ?_
        rintro e w50 ⟨rfl, hb⟩
        refine ⟨_, rfl, ?_⟩
        have n0_ := AM (blk_below (g := gb254) (o := .cells #[.int .i64 a3_0, .int .i64 a3_1, .int .i64 a3_2] 27 (0, 0)) (by (with_reducible repeat (first | refine vN ?_ _ | refine vD ?_ | refine vA ?_ _)); exact BK254.out) hb)
        have n1_ := AM (below_step (by repeat (first | (with_reducible first | exact HB.out | apply wA | apply wN | apply wD | refine wS ?_ GE254.out) | exact HB.out)) hb)
        clear BK254
        clear HB
        have BK254 := n0_
        have HB := n1_
        clear n0_ n1_
        (try clear hb)
        (try clear hb2)
        (try clear hk)
        (try clear hi)
        refine hK.out _ _ ⟨(blk_cell BK254.out 0).trans rfl, (blk_cell BK254.out 1).trans rfl, (blk_cell BK254.out 2).trans rfl⟩ (fun hHeld => ?_)
        clear hK K
        refine norm_ (a' := ?_) ?_ ?_
        rotate_left
        ·show Act.put _ (some 51) _ = _
         simp only [Act.put, qI, qz, qs, qi, qj]
         rfl
        refine P1 ?_ 32 52 mk_33 rfl rfl HT_.out (by kernel_rfl) (fun _ _ _ => id) (.inl ⟨by rfl, ?_⟩) ?_ ?_ ?_; rotate_left; (intro w'; go_simp; with_reducible rfl); rotate_left; (simp only [pa, qz, qs, qi, qj]; rfl)
        refine P1 ?_ 33 53 mk_34 rfl rfl HT_.out (by kernel_rfl) (fun _ _ _ => id) (.inl ⟨by rfl, ?_⟩) ?_ ?_ ?_; rotate_left; (intro w'; go_simp; with_reducible rfl); rotate_left; (simp only [pa, qz, qs, qi, qj]; rfl)
        refine P1 ?_ 34 54 mk_35 rfl rfl HT_.out (by kernel_rfl) (fun _ _ _ => id) (.inl ⟨by rfl, ?_⟩) ?_ ?_ ?_; rotate_left; (intro w'; go_simp; with_reducible rfl); rotate_left; (simp only [pa, qz, qs, qi, qj]; rfl)
        refine P1 undef 35 55 mk_36 rfl rfl HT_.out (by kernel_rfl) (fun _ _ _ => id) (.inr ⟨by rfl, rfl⟩) ?_ ?_ ?_; rotate_left; (simp only [pa, qz, qs, qi, qj]; rfl)
        refine P1 undef 36 56 mk_56 rfl rfl HT_.out (by kernel_rfl) (fun _ _ _ => id) (.inr ⟨by rfl, rfl⟩) ?_ ?_ ?_; rotate_left; (simp only [pa, qz, qs, qi, qj]; rfl)
        refine P1 undef 37 57 mk_57 rfl rfl HT_.out (by kernel_rfl) (fun _ _ _ => id) (.inr ⟨by rfl, rfl⟩) ?_ ?_ ?_; rotate_left; (simp only [pa, qz, qs, qi, qj]; rfl)
        refine P1 undef 38 58 mk_58 rfl rfl HT_.out (by kernel_rfl) (fun _ _ _ => id) (.inr ⟨by rfl, rfl⟩) ?_ ?_ ?_; rotate_left; (simp only [pa, qz, qs, qi, qj]; rfl)
        refine P1 undef 39 59 mk_40 rfl rfl HT_.out (by kernel_rfl) (fun _ _ _ => id) (.inr ⟨by rfl, rfl⟩) ?_ ?_ ?_; rotate_left; (simp only [pa, qz, qs, qi, qj]; rfl)
        refine P1 undef 40 60 mk_41 rfl rfl HT_.out (by kernel_rfl) (fun _ _ _ => id) (.inr ⟨by rfl, rfl⟩) ?_ ?_ ?_; rotate_left; (simp only [pa, qz, qs, qi, qj]; rfl)
        refine P1 undef 41 61 mk_42 rfl rfl HT_.out (by kernel_rfl) (fun _ _ _ => id) (.inr ⟨by rfl, rfl⟩) ?_ ?_ ?_; rotate_left; (simp only [pa, qz, qs, qi, qj]; rfl)
        refine P1 ?_ 42 62 mk_43 rfl rfl HT_.out (by kernel_rfl) (fun _ _ _ => id) (.inl ⟨by rfl, ?_⟩) ?_ ?_ ?_; rotate_left; (intro w'; go_simp; with_reducible rfl); rotate_left; (simp only [pa, qz, qs, qi, qj]; rfl)
        refine P1 ?_ 43 63 mk_44 rfl rfl HT_.out (by kernel_rfl) (fun _ _ _ => id) (.inl ⟨by rfl, ?_⟩) ?_ ?_ ?_; rotate_left; (intro w'; go_simp; with_reducible rfl); rotate_left; (simp only [pa, qz, qs, qi, qj]; rfl)
        refine P1 undef 44 64 mk_45 rfl rfl HT_.out (by kernel_rfl) (fun _ _ _ => id) (.inr ⟨by rfl, rfl⟩) ?_ ?_ ?_; rotate_left; (simp only [pa, qz, qs, qi, qj]; rfl)
        refine P1 undef 45 65 mk_46 rfl rfl HT_.out (by kernel_rfl) (fun _ _ _ => id) (.inr ⟨by rfl, rfl⟩) ?_ ?_ ?_; rotate_left; (simp only [pa, qz, qs, qi, qj]; rfl)
        refine P1 undef 46 66 mk_47 rfl rfl HT_.out (by kernel_rfl) (fun _ _ _ => id) (.inr ⟨by rfl, rfl⟩) ?_ ?_ ?_; rotate_left; (simp only [pa, qz, qs, qi, qj]; rfl)
        refine P1 undef 47 67 mk_48 rfl rfl HT_.out (by kernel_rfl) (fun _ _ _ => id) (.inr ⟨by rfl, rfl⟩) ?_ ?_ ?_; rotate_left; (simp only [pa, qz, qs, qi, qj]; rfl)
        refine P1 undef 48 68 mk_49 rfl rfl HT_.out (by kernel_rfl) (fun _ _ _ => id) (.inr ⟨by rfl, rfl⟩) ?_ ?_ ?_; rotate_left; (simp only [pa, qz, qs, qi, qj]; rfl)
        refine P1 undef 49 69 mk_50 rfl rfl HT_.out (by kernel_rfl) (fun _ _ _ => id) (.inr ⟨by rfl, rfl⟩) ?_ ?_ ?_; rotate_left; (simp only [pa, qz, qs, qi, qj]; rfl)
        refine P1 undef 50 70 mk_51 rfl rfl HT_.out (by kernel_rfl) (fun _ _ _ => id) (.inr ⟨by rfl, rfl⟩) ?_ ?_ ?_; rotate_left; (simp only [pa, qz, qs, qi, qj]; rfl)
        refine P1 ?_ 51 71 mk_52 rfl rfl HT_.out (by kernel_rfl) (fun _ _ _ => id) (.inl ⟨by rfl, ?_⟩) ?_ ?_ ?_; rotate_left; (intro w'; go_simp; with_reducible rfl); rotate_left; (simp only [pa, qz, qs, qi, qj]; rfl)
        refine done_ (done_of HT_.out (by kernel_rfl)) ?_
        try go_wp2
        go_meet
        case rel => exact ⟨_, (true), (by first | rfl | (simp; done) | (simp [*]; done) | (simp [wrap64]; done)), H', ⟨by first | omega | exact Nat.le_refl _⟩, ⟨by (with_reducible repeat (first | refine vN ?_ _ | refine vD ?_ | refine vA ?_ _)); exact BK254.out⟩, ⟨by repeat (first | (with_reducible first | exact HB.out | apply wA | apply wN | apply wD | refine wS ?_ GE254.out) | exact HB.out)⟩⟩
      ·rw [if_neg c21] at H
       have c21b0 : (t260 == t261) = false := beq_eq_false_iff_ne.mpr c21
       have c21b1 : (t260 != t261) = true := bne_iff_ne.mpr c21
       have H' := AM H
       clear H
       try go_wp2
       have n0_ := AM (vD BK254.out)
       have n1_ := AM (wD HB.out)
       clear BK254
       clear HB
       have BK254 := n0_
       have HB := n1_
       clear n0_ n1_
       refine start_ (n := 52) (S := fun w' => True) (ds := []) mk_0 (by kernel_rfl) rfl rfl trivial (fun hHeld => ?_); refine with_tabW targumlaw2_BrkTells.tab5 targumlaw2_BrkTells.bits5 (fun HT_ HW_ => ?_)
       generalize w12.drew = w51 at BK254 HB hHeld ⊢
       refine P1 ?_ 0 20 mk_1 rfl rfl HT_.out (by kernel_rfl) (fun _ _ _ => id) (.inl ⟨by rfl, ?_⟩) ?_ ?_ ?_; rotate_left; (intro w'; go_simp; with_reducible rfl); rotate_left; (simp only [pa, qz, qs, qi, qj]; rfl)
       refine P1 ?_ 1 21 mk_2 rfl rfl HT_.out (by kernel_rfl) (fun _ _ _ => id) (.inl ⟨by rfl, ?_⟩) ?_ ?_ ?_; rotate_left; (intro w'; go_simp; with_reducible rfl); rotate_left; (simp only [pa, qz, qs, qi, qj]; rfl)
       refine P1 ?_ 2 22 mk_3 rfl rfl HT_.out (by kernel_rfl) (fun _ _ _ => id) (.inl ⟨by rfl, ?_⟩) ?_ ?_ ?_; rotate_left; (intro w'; go_simp; with_reducible rfl); rotate_left; (simp only [pa, qz, qs, qi, qj]; rfl)
       refine P1 ?_ 4 24 mk_4 rfl rfl HT_.out (by kernel_rfl) (fun _ _ _ => id) (.inl ⟨by rfl, ?_⟩) ?_ ?_ ?_; rotate_left; (intro w'; go_simp; with_reducible rfl); rotate_left; (simp only [pa, qz, qs, qi, qj]; rfl)
       refine P1 ?_ 5 25 mk_5 rfl rfl HT_.out (by kernel_rfl) (fun _ _ _ => id) (.inl ⟨by rfl, ?_⟩) ?_ ?_ ?_; rotate_left; (intro w'; go_simp; with_reducible rfl); rotate_left; (simp only [pa, qz, qs, qi, qj]; rfl)
       refine P1 ?_ 6 26 mk_6 rfl rfl HT_.out (by kernel_rfl) (fun _ _ _ => id) (.inl ⟨by rfl, ?_⟩) ?_ ?_ ?_; rotate_left; (intro w'; go_simp; with_reducible rfl); rotate_left; (simp only [pa, qz, qs, qi, qj]; rfl)
       refine one_ (i := 3) (N := some 23) mk_7 rfl rfl (one_of HT_.out (by kernel_rfl)) (by decide) (fun K hK => ?_)
       refine goes_ Tryd.func12 (by kernel_rfl) rfl #[.int .i64 a1, .string a0, .int .i64 a2] (by rfl) rfl rfl (by (try simp only [qT, qC, qN]); first | done | rfl | (simp only [qD, qU]; rfl)) ?_
       with_reducible refine (brk_Break.calls k a1 a0 a2 t256 _ A13.out).mono ?_
       rintro e w' ⟨rfl, ⟨nd, rfl⟩⟩
       refine ⟨_, rfl, ?_⟩
       refine hK.out _ _ trivial (fun hHeld => ?_)
       clear hK K
       refine norm_ (a' := ?_) ?_ ?_
       rotate_left
       ·show Act.put _ (some 23) _ = _
        simp only [Act.put, qI, qz, qs, qi, qj]
        rfl
       refine one_ (i := 7) (N := some 27) mk_8 rfl rfl (one_of HT_.out (by kernel_rfl)) (by decide) (fun K hK => ?_)
       refine goes_ Tryd.func15 (by kernel_rfl) rfl #[.int .i64 a1, .string a0, .int .i64 a2] (by rfl) rfl rfl (by (try simp only [qT, qC, qN]); first | done | rfl | (simp only [qD, qU]; rfl)) ?_
       with_reducible refine (targumref1_Break.calls k a1 a0 a2 t257 _ A14.out).mono ?_
       rintro e w' ⟨rfl, ⟨nd, rfl⟩⟩
       refine ⟨_, rfl, ?_⟩
       refine hK.out _ _ trivial (fun hHeld => ?_)
       clear hK K
       refine norm_ (a' := ?_) ?_ ?_
       rotate_left
       ·show Act.put _ (some 27) _ = _
        simp only [Act.put, qI, qz, qs, qi, qj]
        rfl
       refine P1 ?_ 8 28 mk_9 rfl rfl HT_.out (by kernel_rfl) (fun _ _ _ => id) (.inl ⟨by rfl, ?_⟩) ?_ ?_ ?_; rotate_left; (intro w'; go_simp; with_reducible rfl); rotate_left; (simp only [pa, qz, qs, qi, qj]; rfl)
       refine P1 ?_ 9 29 mk_10 rfl rfl HT_.out (by kernel_rfl) (fun _ _ _ => id) (.inl ⟨by rfl, ?_⟩) ?_ ?_ ?_; rotate_left; (intro w'; go_simp; with_reducible rfl); rotate_left; (simp only [pa, qz, qs, qi, qj]; rfl)
       refine P1 ?_ 10 30 mk_11 rfl rfl HT_.out (by kernel_rfl) (fun _ _ _ => id) (.inl ⟨by rfl, ?_⟩) ?_ ?_ ?_; rotate_left; (intro w'; go_simp; with_reducible rfl); rotate_left; (simp only [pa, qz, qs, qi, qj]; rfl)
       refine P1 ?_ 11 31 mk_12 rfl rfl HT_.out (by kernel_rfl) (fun _ _ _ => id) (.inl ⟨by rfl, ?_⟩) ?_ ?_ ?_; rotate_left; (intro w'; go_simp; with_reducible rfl); rotate_left; (simp only [pa, qz, qs, qi, qj]; rfl)
       refine P1 ?_ 13 33 mk_13 rfl rfl HT_.out (by kernel_rfl) (fun _ _ _ => id) (.inl ⟨by rfl, ?_⟩) ?_ ?_ ?_; rotate_left; (intro w'; go_simp; with_reducible rfl); rotate_left; (simp only [pa, qz, qs, qi, qj]; rfl)
       refine P1 ?_ 14 34 mk_14 rfl rfl HT_.out (by kernel_rfl) (fun _ _ _ => id) (.inl ⟨by rfl, ?_⟩) ?_ ?_ ?_; rotate_left; (intro w'; go_simp; with_reducible rfl); rotate_left; (simp only [pa, qz, qs, qi, qj]; rfl)
       refine one_ (i := 12) (N := some 32) mk_15 rfl rfl (one_of HT_.out (by kernel_rfl)) (by decide) (fun K hK => ?_)
       refine goes_ Tryd.func17 (by kernel_rfl) rfl #[.string a0, .int .i64 a2] (by rfl) rfl rfl (by (try simp only [qT, qC, qN]); first | done | rfl | (simp only [qD, qU]; rfl)) ?_
       with_reducible refine (brk_May.calls k a0 a2 t258 _ ?side1 A16.out).mono ?_
       (case side1 => exact Utf8Tabs_below HG.out (by repeat (first | (with_reducible first | exact HB.out | apply wA | apply wN | apply wD | refine wS ?_ GE254.out) | exact HB.out)))
       rintro e w52 ⟨rfl, hb⟩
       refine ⟨_, rfl, ?_⟩
       have n0_ := AM (blk_below (g := gb254) (o := .cells #[.int .i64 a3_0, .int .i64 a3_1, .int .i64 a3_2] 27 (0, 0)) (by (with_reducible repeat (first | refine vN ?_ _ | refine vD ?_ | refine vA ?_ _)); exact BK254.out) hb)
       have n1_ := AM (below_step (by repeat (first | (with_reducible first | exact HB.out | apply wA | apply wN | apply wD | refine wS ?_ GE254.out) | exact HB.out)) hb)
       clear BK254
       clear HB
       have BK254 := n0_
       have HB := n1_
       clear n0_ n1_
       (try clear hb)
       (try clear hb2)
       (try clear hk)
       (try clear hi)
       refine hK.out _ _ trivial (fun hHeld => ?_)
       clear hK K
       refine norm_ (a' := ?_) ?_ ?_
       rotate_left
       ·show Act.put _ (some 32) _ = _
        simp only [Act.put, qI, qz, qs, qi, qj]
        rfl
       refine one_ (i := 15) (N := some 35) mk_16 rfl rfl (one_of HT_.out (by kernel_rfl)) (by decide) (fun K hK => ?_)
       refine goes_ Tryd.func18 (by kernel_rfl) rfl #[.string a0, .int .i64 a2] (by rfl) rfl rfl (by (try simp only [qT, qC, qN]); first | done | rfl | (simp only [qD, qU]; rfl)) ?_
       with_reducible refine (targumref1_May.calls k a0 a2 t259 _ A17.out).mono ?_
       rintro e w' ⟨rfl, ⟨nd, rfl⟩⟩
       refine ⟨_, rfl, ?_⟩
       refine hK.out _ _ trivial (fun hHeld => ?_)
       clear hK K
       refine norm_ (a' := ?_) ?_ ?_
       rotate_left
       ·show Act.put _ (some 35) _ = _
        simp only [Act.put, qI, qz, qs, qi, qj]
        rfl
       refine P1 ?_ 16 36 mk_17 rfl rfl HT_.out (by kernel_rfl) (fun _ _ _ => id) (.inl ⟨by rfl, ?_⟩) ?_ ?_ ?_; rotate_left; (intro w'; go_simp; with_reducible rfl); rotate_left; (simp only [pa, qz, qs, qi, qj]; rfl)
       refine P1 ?_ 17 37 mk_18 rfl rfl HT_.out (by kernel_rfl) (fun _ _ _ => id) (.inl ⟨by rfl, ?_⟩) ?_ ?_ ?_; rotate_left; (intro w'; go_simp; with_reducible rfl); rotate_left; (simp only [pa, qz, qs, qi, qj]; rfl)
       refine P1 ?_ 18 38 mk_19 rfl rfl HT_.out (by kernel_rfl) (fun _ _ _ => id) (.inl ⟨by rfl, ?_⟩) ?_ ?_ ?_; rotate_left; (intro w'; go_simp; with_reducible rfl); rotate_left; (simp only [pa, qz, qs, qi, qj]; rfl)
       refine P1 ?_ 19 39 mk_20 rfl rfl HT_.out (by kernel_rfl) (fun _ _ _ => id) (.inl ⟨by rfl, ?_⟩) ?_ ?_ ?_; rotate_left; (intro w'; go_simp; with_reducible rfl); rotate_left; (simp only [pa, qz, qs, qi, qj]; rfl)
       refine P1 ?_ 21 41 mk_21 rfl rfl HT_.out (by kernel_rfl) (fun _ _ _ => id) (.inl ⟨by rfl, ?_⟩) ?_ ?_ ?_; rotate_left; (intro w'; go_simp; with_reducible rfl); rotate_left; (simp only [pa, qz, qs, qi, qj]; rfl)
       refine one_ (i := 20) (N := some 40) mk_22 rfl rfl (one_of HT_.out (by kernel_rfl)) (by decide) (fun K hK => ?_)
       refine goes_ Tryd.func16 (by kernel_rfl) rfl #[.string a0] (by rfl) rfl rfl (by (try simp only [qT, qC, qN]); first | done | rfl | (simp only [qD, qU]; rfl)) ?_
       with_reducible refine (brk_Check.calls k a0 t260 _ ?side1 A19.out).mono ?_
       (case side1 => exact Utf8Tabs_below HG.out (by repeat (first | (with_reducible first | exact HB.out | apply wA | apply wN | apply wD | refine wS ?_ GE254.out) | exact HB.out)))
       rintro e w53 ⟨rfl, hb⟩
       refine ⟨_, rfl, ?_⟩
       have n0_ := AM (blk_below (g := gb254) (o := .cells #[.int .i64 a3_0, .int .i64 a3_1, .int .i64 a3_2] 27 (0, 0)) (by (with_reducible repeat (first | refine vN ?_ _ | refine vD ?_ | refine vA ?_ _)); exact BK254.out) hb)
       have n1_ := AM (below_step (by repeat (first | (with_reducible first | exact HB.out | apply wA | apply wN | apply wD | refine wS ?_ GE254.out) | exact HB.out)) hb)
       clear BK254
       clear HB
       have BK254 := n0_
       have HB := n1_
       clear n0_ n1_
       (try clear hb)
       (try clear hb2)
       (try clear hk)
       (try clear hi)
       refine hK.out _ _ trivial (fun hHeld => ?_)
       clear hK K
       refine norm_ (a' := ?_) ?_ ?_
       rotate_left
       ·show Act.put _ (some 40) _ = _
        simp only [Act.put, qI, qz, qs, qi, qj]
        rfl
       refine one_ (i := 22) (N := some 42) mk_23 rfl rfl (one_of HT_.out (by kernel_rfl)) (by decide) (fun K hK => ?_)
       refine goes_ Tryd.func19 (by kernel_rfl) rfl #[.string a0] (by rfl) rfl rfl (by (try simp only [qT, qC, qN]); first | done | rfl | (simp only [qD, qU]; rfl)) ?_
       with_reducible refine (targumref1_Check.calls k a0 t261 _ A20.out).mono ?_
       rintro e w' ⟨rfl, ⟨nd, rfl⟩⟩
       refine ⟨_, rfl, ?_⟩
       refine hK.out _ _ trivial (fun hHeld => ?_)
       clear hK K
       refine norm_ (a' := ?_) ?_ ?_
       rotate_left
       ·show Act.put _ (some 42) _ = _
        simp only [Act.put, qI, qz, qs, qi, qj]
        rfl
       refine P1 ?_ 23 43 mk_24 rfl rfl HT_.out (by kernel_rfl) (fun _ _ _ => id) (.inl ⟨by rfl, ?_⟩) ?_ ?_ ?_; rotate_left; (intro w'; go_simp; with_reducible rfl); rotate_left; (simp only [pa, qz, qs, qi, qj]; rfl)
       refine P1 ?_ 24 44 mk_25 rfl rfl HT_.out (by kernel_rfl) (fun _ _ _ => id) (.inl ⟨by rfl, ?_⟩) ?_ ?_ ?_; rotate_left; (intro w'; go_simp; with_reducible rfl); rotate_left; (simp only [pa, qz, qs, qi, qj]; rfl)
       refine P1 ?_ 25 45 mk_26 rfl rfl HT_.out (by kernel_rfl) (fun _ _ _ => id) (.inl ⟨by rfl, ?_⟩) ?_ ?_ ?_; rotate_left; (intro w'; go_simp; with_reducible rfl); rotate_left; (simp only [pa, qz, qs, qi, qj]; rfl)
       refine P1 undef 26 46 mk_27 rfl rfl HT_.out (by kernel_rfl) (fun _ _ _ => id) (.inr ⟨by rfl, rfl⟩) ?_ ?_ ?_; rotate_left; (simp only [pa, qz, qs, qi, qj]; rfl)
       refine P1 undef 27 47 mk_59 rfl rfl HT_.out (by kernel_rfl) (fun _ _ _ => id) (.inr ⟨by rfl, rfl⟩) ?_ ?_ ?_; rotate_left; (simp only [pa, qz, qs, qi, qj]; rfl)
       refine P1 undef 28 48 mk_60 rfl rfl HT_.out (by kernel_rfl) (fun _ _ _ => id) (.inr ⟨by rfl, rfl⟩) ?_ ?_ ?_; rotate_left; (simp only [pa, qz, qs, qi, qj]; rfl)
       refine P1 undef 29 49 mk_61 rfl rfl HT_.out (by kernel_rfl) (fun _ _ _ => id) (.inr ⟨by rfl, rfl⟩) ?_ ?_ ?_; rotate_left; (simp only [pa, qz, qs, qi, qj]; rfl)
       refine P1 undef 30 50 mk_31 rfl rfl HT_.out (by kernel_rfl) (fun _ _ _ => id) (.inr ⟨by rfl, rfl⟩) ?_ ?_ ?_; rotate_left; (simp only [pa, qz, qs, qi, qj]; rfl)
       refine P1 undef 31 51 mk_32 rfl rfl HT_.out (by kernel_rfl) (fun _ _ _ => id) (.inr ⟨by rfl, rfl⟩) ?_ ?_ ?_; rotate_left; (simp only [pa, qz, qs, qi, qj]; rfl)
       refine P1 undef 32 52 mk_33 rfl rfl HT_.out (by kernel_rfl) (fun _ _ _ => id) (.inr ⟨by rfl, rfl⟩) ?_ ?_ ?_; rotate_left; (simp only [pa, qz, qs, qi, qj]; rfl)
       refine P1 ?_ 33 53 mk_34 rfl rfl HT_.out (by kernel_rfl) (fun _ _ _ => id) (.inl ⟨by rfl, ?_⟩) ?_ ?_ ?_; rotate_left; (intro w'; go_simp; with_reducible rfl); rotate_left; (simp only [pa, qz, qs, qi, qj]; rfl)
       refine P1 ?_ 34 54 mk_35 rfl rfl HT_.out (by kernel_rfl) (fun _ _ _ => id) (.inl ⟨by rfl, ?_⟩) ?_ ?_ ?_; rotate_left; (intro w'; go_simp; with_reducible rfl); rotate_left; (simp only [pa, qz, qs, qi, qj]; rfl)
       refine P1 undef 35 55 mk_36 rfl rfl HT_.out (by kernel_rfl) (fun _ _ _ => id) (.inr ⟨by rfl, rfl⟩) ?_ ?_ ?_; rotate_left; (simp only [pa, qz, qs, qi, qj]; rfl)
       refine P1 undef 36 56 mk_56 rfl rfl HT_.out (by kernel_rfl) (fun _ _ _ => id) (.inr ⟨by rfl, rfl⟩) ?_ ?_ ?_; rotate_left; (simp only [pa, qz, qs, qi, qj]; rfl)
       refine P1 undef 37 57 mk_57 rfl rfl HT_.out (by kernel_rfl) (fun _ _ _ => id) (.inr ⟨by rfl, rfl⟩) ?_ ?_ ?_; rotate_left; (simp only [pa, qz, qs, qi, qj]; rfl)
       refine P1 undef 38 58 mk_58 rfl rfl HT_.out (by kernel_rfl) (fun _ _ _ => id) (.inr ⟨by rfl, rfl⟩) ?_ ?_ ?_; rotate_left; (simp only [pa, qz, qs, qi, qj]; rfl)
       refine P1 undef 39 59 mk_40 rfl rfl HT_.out (by kernel_rfl) (fun _ _ _ => id) (.inr ⟨by rfl, rfl⟩) ?_ ?_ ?_; rotate_left; (simp only [pa, qz, qs, qi, qj]; rfl)
       refine P1 undef 40 60 mk_41 rfl rfl HT_.out (by kernel_rfl) (fun _ _ _ => id) (.inr ⟨by rfl, rfl⟩) ?_ ?_ ?_; rotate_left; (simp only [pa, qz, qs, qi, qj]; rfl)
       refine P1 undef 41 61 mk_42 rfl rfl HT_.out (by kernel_rfl) (fun _ _ _ => id) (.inr ⟨by rfl, rfl⟩) ?_ ?_ ?_; rotate_left; (simp only [pa, qz, qs, qi, qj]; rfl)
       refine P1 ?_ 42 62 mk_43 rfl rfl HT_.out (by kernel_rfl) (fun _ _ _ => id) (.inl ⟨by rfl, ?_⟩) ?_ ?_ ?_; rotate_left; (intro w'; go_simp; with_reducible rfl); rotate_left; (simp only [pa, qz, qs, qi, qj]; rfl)
       refine P1 ?_ 43 63 mk_44 rfl rfl HT_.out (by kernel_rfl) (fun _ _ _ => id) (.inl ⟨by rfl, ?_⟩) ?_ ?_ ?_; rotate_left; (intro w'; go_simp; with_reducible rfl); rotate_left; (simp only [pa, qz, qs, qi, qj]; rfl)
       refine P1 undef 44 64 mk_45 rfl rfl HT_.out (by kernel_rfl) (fun _ _ _ => id) (.inr ⟨by rfl, rfl⟩) ?_ ?_ ?_; rotate_left; (simp only [pa, qz, qs, qi, qj]; rfl)
       refine P1 undef 45 65 mk_46 rfl rfl HT_.out (by kernel_rfl) (fun _ _ _ => id) (.inr ⟨by rfl, rfl⟩) ?_ ?_ ?_; rotate_left; (simp only [pa, qz, qs, qi, qj]; rfl)
       refine P1 undef 46 66 mk_47 rfl rfl HT_.out (by kernel_rfl) (fun _ _ _ => id) (.inr ⟨by rfl, rfl⟩) ?_ ?_ ?_; rotate_left; (simp only [pa, qz, qs, qi, qj]; rfl)
       refine P1 undef 47 67 mk_48 rfl rfl HT_.out (by kernel_rfl) (fun _ _ _ => id) (.inr ⟨by rfl, rfl⟩) ?_ ?_ ?_; rotate_left; (simp only [pa, qz, qs, qi, qj]; rfl)
       refine P1 undef 48 68 mk_49 rfl rfl HT_.out (by kernel_rfl) (fun _ _ _ => id) (.inr ⟨by rfl, rfl⟩) ?_ ?_ ?_; rotate_left; (simp only [pa, qz, qs, qi, qj]; rfl)
       refine P1 undef 49 69 mk_50 rfl rfl HT_.out (by kernel_rfl) (fun _ _ _ => id) (.inr ⟨by rfl, rfl⟩) ?_ ?_ ?_; rotate_left; (simp only [pa, qz, qs, qi, qj]; rfl)
       refine P1 undef 50 70 mk_51 rfl rfl HT_.out (by kernel_rfl) (fun _ _ _ => id) (.inr ⟨by rfl, rfl⟩) ?_ ?_ ?_; rotate_left; (simp only [pa, qz, qs, qi, qj]; rfl)
       refine P1 ?_ 51 71 mk_52 rfl rfl HT_.out (by kernel_rfl) (fun _ _ _ => id) (.inl ⟨by rfl, ?_⟩) ?_ ?_ ?_; rotate_left; (intro w'; go_simp; with_reducible rfl); rotate_left; (simp only [pa, qz, qs, qi, qj]; rfl)
       refine done_ (done_of HT_.out (by kernel_rfl)) ?_
       try go_wp2
       go_meet
       case rel => exact ⟨_, (true), (by first | rfl | (simp; done) | (simp [*]; done) | (simp [wrap64]; done)), H', ⟨by first | omega | exact Nat.le_refl _⟩, ⟨by (with_reducible repeat (first | refine vN ?_ _ | refine vD ?_ | refine vA ?_ _)); exact BK254.out⟩, ⟨by repeat (first | (with_reducible first | exact HB.out | apply wA | apply wN | apply wD | refine wS ?_ GE254.out) | exact HB.out)⟩⟩
     ·rw [if_neg c18] at H
      have c18b0 : (t258 == t259) = false := beq_eq_false_iff_ne.mpr c18
      have c18b1 : (t258 != t259) = true := bne_iff_ne.mpr c18
      have H' := AM H
      clear H
      try go_wp2
      have n0_ := AM (vD BK254.out)
      have n1_ := AM (wD HB.out)
      clear BK254
      clear HB
      have BK254 := n0_
      have HB := n1_
      clear n0_ n1_
      refine start_ (n := 52) (S := fun w' => True) (ds := []) mk_0 (by kernel_rfl) rfl rfl trivial (fun hHeld => ?_); refine with_tabW targumlaw2_BrkTells.tab5 targumlaw2_BrkTells.bits5 (fun HT_ HW_ => ?_)
      generalize w12.drew = w54 at BK254 HB hHeld ⊢
      refine P1 ?_ 0 20 mk_1 rfl rfl HT_.out (by kernel_rfl) (fun _ _ _ => id) (.inl ⟨by rfl, ?_⟩) ?_ ?_ ?_; rotate_left; (intro w'; go_simp; with_reducible rfl); rotate_left; (simp only [pa, qz, qs, qi, qj]; rfl)
      refine P1 ?_ 1 21 mk_2 rfl rfl HT_.out (by kernel_rfl) (fun _ _ _ => id) (.inl ⟨by rfl, ?_⟩) ?_ ?_ ?_; rotate_left; (intro w'; go_simp; with_reducible rfl); rotate_left; (simp only [pa, qz, qs, qi, qj]; rfl)
      refine P1 ?_ 2 22 mk_3 rfl rfl HT_.out (by kernel_rfl) (fun _ _ _ => id) (.inl ⟨by rfl, ?_⟩) ?_ ?_ ?_; rotate_left; (intro w'; go_simp; with_reducible rfl); rotate_left; (simp only [pa, qz, qs, qi, qj]; rfl)
      refine P1 ?_ 4 24 mk_4 rfl rfl HT_.out (by kernel_rfl) (fun _ _ _ => id) (.inl ⟨by rfl, ?_⟩) ?_ ?_ ?_; rotate_left; (intro w'; go_simp; with_reducible rfl); rotate_left; (simp only [pa, qz, qs, qi, qj]; rfl)
      refine P1 ?_ 5 25 mk_5 rfl rfl HT_.out (by kernel_rfl) (fun _ _ _ => id) (.inl ⟨by rfl, ?_⟩) ?_ ?_ ?_; rotate_left; (intro w'; go_simp; with_reducible rfl); rotate_left; (simp only [pa, qz, qs, qi, qj]; rfl)
      refine P1 ?_ 6 26 mk_6 rfl rfl HT_.out (by kernel_rfl) (fun _ _ _ => id) (.inl ⟨by rfl, ?_⟩) ?_ ?_ ?_; rotate_left; (intro w'; go_simp; with_reducible rfl); rotate_left; (simp only [pa, qz, qs, qi, qj]; rfl)
      refine one_ (i := 3) (N := some 23) mk_7 rfl rfl (one_of HT_.out (by kernel_rfl)) (by decide) (fun K hK => ?_)
      refine goes_ Tryd.func12 (by kernel_rfl) rfl #[.int .i64 a1, .string a0, .int .i64 a2] (by rfl) rfl rfl (by (try simp only [qT, qC, qN]); first | done | rfl | (simp only [qD, qU]; rfl)) ?_
      with_reducible refine (brk_Break.calls k a1 a0 a2 t256 _ A13.out).mono ?_
      rintro e w' ⟨rfl, ⟨nd, rfl⟩⟩
      refine ⟨_, rfl, ?_⟩
      refine hK.out _ _ trivial (fun hHeld => ?_)
      clear hK K
      refine norm_ (a' := ?_) ?_ ?_
      rotate_left
      ·show Act.put _ (some 23) _ = _
       simp only [Act.put, qI, qz, qs, qi, qj]
       rfl
      refine one_ (i := 7) (N := some 27) mk_8 rfl rfl (one_of HT_.out (by kernel_rfl)) (by decide) (fun K hK => ?_)
      refine goes_ Tryd.func15 (by kernel_rfl) rfl #[.int .i64 a1, .string a0, .int .i64 a2] (by rfl) rfl rfl (by (try simp only [qT, qC, qN]); first | done | rfl | (simp only [qD, qU]; rfl)) ?_
      with_reducible refine (targumref1_Break.calls k a1 a0 a2 t257 _ A14.out).mono ?_
      rintro e w' ⟨rfl, ⟨nd, rfl⟩⟩
      refine ⟨_, rfl, ?_⟩
      refine hK.out _ _ trivial (fun hHeld => ?_)
      clear hK K
      refine norm_ (a' := ?_) ?_ ?_
      rotate_left
      ·show Act.put _ (some 27) _ = _
       simp only [Act.put, qI, qz, qs, qi, qj]
       rfl
      refine P1 ?_ 8 28 mk_9 rfl rfl HT_.out (by kernel_rfl) (fun _ _ _ => id) (.inl ⟨by rfl, ?_⟩) ?_ ?_ ?_; rotate_left; (intro w'; go_simp; with_reducible rfl); rotate_left; (simp only [pa, qz, qs, qi, qj]; rfl)
      refine P1 ?_ 9 29 mk_10 rfl rfl HT_.out (by kernel_rfl) (fun _ _ _ => id) (.inl ⟨by rfl, ?_⟩) ?_ ?_ ?_; rotate_left; (intro w'; go_simp; with_reducible rfl); rotate_left; (simp only [pa, qz, qs, qi, qj]; rfl)
      refine P1 ?_ 10 30 mk_11 rfl rfl HT_.out (by kernel_rfl) (fun _ _ _ => id) (.inl ⟨by rfl, ?_⟩) ?_ ?_ ?_; rotate_left; (intro w'; go_simp; with_reducible rfl); rotate_left; (simp only [pa, qz, qs, qi, qj]; rfl)
      refine P1 ?_ 11 31 mk_12 rfl rfl HT_.out (by kernel_rfl) (fun _ _ _ => id) (.inl ⟨by rfl, ?_⟩) ?_ ?_ ?_; rotate_left; (intro w'; go_simp; with_reducible rfl); rotate_left; (simp only [pa, qz, qs, qi, qj]; rfl)
      refine P1 ?_ 13 33 mk_13 rfl rfl HT_.out (by kernel_rfl) (fun _ _ _ => id) (.inl ⟨by rfl, ?_⟩) ?_ ?_ ?_; rotate_left; (intro w'; go_simp; with_reducible rfl); rotate_left; (simp only [pa, qz, qs, qi, qj]; rfl)
      refine P1 ?_ 14 34 mk_14 rfl rfl HT_.out (by kernel_rfl) (fun _ _ _ => id) (.inl ⟨by rfl, ?_⟩) ?_ ?_ ?_; rotate_left; (intro w'; go_simp; with_reducible rfl); rotate_left; (simp only [pa, qz, qs, qi, qj]; rfl)
      refine one_ (i := 12) (N := some 32) mk_15 rfl rfl (one_of HT_.out (by kernel_rfl)) (by decide) (fun K hK => ?_)
      refine goes_ Tryd.func17 (by kernel_rfl) rfl #[.string a0, .int .i64 a2] (by rfl) rfl rfl (by (try simp only [qT, qC, qN]); first | done | rfl | (simp only [qD, qU]; rfl)) ?_
      with_reducible refine (brk_May.calls k a0 a2 t258 _ ?side1 A16.out).mono ?_
      (case side1 => exact Utf8Tabs_below HG.out (by repeat (first | (with_reducible first | exact HB.out | apply wA | apply wN | apply wD | refine wS ?_ GE254.out) | exact HB.out)))
      rintro e w55 ⟨rfl, hb⟩
      refine ⟨_, rfl, ?_⟩
      have n0_ := AM (blk_below (g := gb254) (o := .cells #[.int .i64 a3_0, .int .i64 a3_1, .int .i64 a3_2] 27 (0, 0)) (by (with_reducible repeat (first | refine vN ?_ _ | refine vD ?_ | refine vA ?_ _)); exact BK254.out) hb)
      have n1_ := AM (below_step (by repeat (first | (with_reducible first | exact HB.out | apply wA | apply wN | apply wD | refine wS ?_ GE254.out) | exact HB.out)) hb)
      clear BK254
      clear HB
      have BK254 := n0_
      have HB := n1_
      clear n0_ n1_
      (try clear hb)
      (try clear hb2)
      (try clear hk)
      (try clear hi)
      refine hK.out _ _ trivial (fun hHeld => ?_)
      clear hK K
      refine norm_ (a' := ?_) ?_ ?_
      rotate_left
      ·show Act.put _ (some 32) _ = _
       simp only [Act.put, qI, qz, qs, qi, qj]
       rfl
      refine one_ (i := 15) (N := some 35) mk_16 rfl rfl (one_of HT_.out (by kernel_rfl)) (by decide) (fun K hK => ?_)
      refine goes_ Tryd.func18 (by kernel_rfl) rfl #[.string a0, .int .i64 a2] (by rfl) rfl rfl (by (try simp only [qT, qC, qN]); first | done | rfl | (simp only [qD, qU]; rfl)) ?_
      with_reducible refine (targumref1_May.calls k a0 a2 t259 _ A17.out).mono ?_
      rintro e w' ⟨rfl, ⟨nd, rfl⟩⟩
      refine ⟨_, rfl, ?_⟩
      refine hK.out _ _ trivial (fun hHeld => ?_)
      clear hK K
      refine norm_ (a' := ?_) ?_ ?_
      rotate_left
      ·show Act.put _ (some 35) _ = _
       simp only [Act.put, qI, qz, qs, qi, qj]
       rfl
      refine P1 ?_ 16 36 mk_17 rfl rfl HT_.out (by kernel_rfl) (fun _ _ _ => id) (.inl ⟨by rfl, ?_⟩) ?_ ?_ ?_; rotate_left; (intro w'; go_simp; with_reducible rfl); rotate_left; (simp only [pa, qz, qs, qi, qj]; rfl)
      refine P1 ?_ 17 37 mk_18 rfl rfl HT_.out (by kernel_rfl) (fun _ _ _ => id) (.inl ⟨by rfl, ?_⟩) ?_ ?_ ?_; rotate_left; (intro w'; go_simp; with_reducible rfl); rotate_left; (simp only [pa, qz, qs, qi, qj]; rfl)
      refine P1 ?_ 18 38 mk_19 rfl rfl HT_.out (by kernel_rfl) (fun _ _ _ => id) (.inl ⟨by rfl, ?_⟩) ?_ ?_ ?_; rotate_left; (intro w'; go_simp; with_reducible rfl); rotate_left; (simp only [pa, qz, qs, qi, qj]; rfl)
      refine P1 undef 19 39 mk_20 rfl rfl HT_.out (by kernel_rfl) (fun _ _ _ => id) (.inr ⟨by rfl, rfl⟩) ?_ ?_ ?_; rotate_left; (simp only [pa, qz, qs, qi, qj]; rfl)
      refine P1 undef 20 40 mk_62 rfl rfl HT_.out (by kernel_rfl) (fun _ _ _ => id) (.inr ⟨by rfl, rfl⟩) ?_ ?_ ?_; rotate_left; (simp only [pa, qz, qs, qi, qj]; rfl)
      refine P1 undef 21 41 mk_22 rfl rfl HT_.out (by kernel_rfl) (fun _ _ _ => id) (.inr ⟨by rfl, rfl⟩) ?_ ?_ ?_; rotate_left; (simp only [pa, qz, qs, qi, qj]; rfl)
      refine P1 undef 22 42 mk_23 rfl rfl HT_.out (by kernel_rfl) (fun _ _ _ => id) (.inr ⟨by rfl, rfl⟩) ?_ ?_ ?_; rotate_left; (simp only [pa, qz, qs, qi, qj]; rfl)
      refine P1 undef 23 43 mk_24 rfl rfl HT_.out (by kernel_rfl) (fun _ _ _ => id) (.inr ⟨by rfl, rfl⟩) ?_ ?_ ?_; rotate_left; (simp only [pa, qz, qs, qi, qj]; rfl)
      refine P1 ?_ 24 44 mk_25 rfl rfl HT_.out (by kernel_rfl) (fun _ _ _ => id) (.inl ⟨by rfl, ?_⟩) ?_ ?_ ?_; rotate_left; (intro w'; go_simp; with_reducible rfl); rotate_left; (simp only [pa, qz, qs, qi, qj]; rfl)
      refine P1 ?_ 25 45 mk_26 rfl rfl HT_.out (by kernel_rfl) (fun _ _ _ => id) (.inl ⟨by rfl, ?_⟩) ?_ ?_ ?_; rotate_left; (intro w'; go_simp; with_reducible rfl); rotate_left; (simp only [pa, qz, qs, qi, qj]; rfl)
      refine P1 undef 26 46 mk_27 rfl rfl HT_.out (by kernel_rfl) (fun _ _ _ => id) (.inr ⟨by rfl, rfl⟩) ?_ ?_ ?_; rotate_left; (simp only [pa, qz, qs, qi, qj]; rfl)
      refine P1 undef 27 47 mk_59 rfl rfl HT_.out (by kernel_rfl) (fun _ _ _ => id) (.inr ⟨by rfl, rfl⟩) ?_ ?_ ?_; rotate_left; (simp only [pa, qz, qs, qi, qj]; rfl)
      refine P1 undef 28 48 mk_60 rfl rfl HT_.out (by kernel_rfl) (fun _ _ _ => id) (.inr ⟨by rfl, rfl⟩) ?_ ?_ ?_; rotate_left; (simp only [pa, qz, qs, qi, qj]; rfl)
      refine P1 undef 29 49 mk_61 rfl rfl HT_.out (by kernel_rfl) (fun _ _ _ => id) (.inr ⟨by rfl, rfl⟩) ?_ ?_ ?_; rotate_left; (simp only [pa, qz, qs, qi, qj]; rfl)
      refine P1 undef 30 50 mk_31 rfl rfl HT_.out (by kernel_rfl) (fun _ _ _ => id) (.inr ⟨by rfl, rfl⟩) ?_ ?_ ?_; rotate_left; (simp only [pa, qz, qs, qi, qj]; rfl)
      refine P1 undef 31 51 mk_32 rfl rfl HT_.out (by kernel_rfl) (fun _ _ _ => id) (.inr ⟨by rfl, rfl⟩) ?_ ?_ ?_; rotate_left; (simp only [pa, qz, qs, qi, qj]; rfl)
      refine P1 undef 32 52 mk_33 rfl rfl HT_.out (by kernel_rfl) (fun _ _ _ => id) (.inr ⟨by rfl, rfl⟩) ?_ ?_ ?_; rotate_left; (simp only [pa, qz, qs, qi, qj]; rfl)
      refine P1 ?_ 33 53 mk_34 rfl rfl HT_.out (by kernel_rfl) (fun _ _ _ => id) (.inl ⟨by rfl, ?_⟩) ?_ ?_ ?_; rotate_left; (intro w'; go_simp; with_reducible rfl); rotate_left; (simp only [pa, qz, qs, qi, qj]; rfl)
      refine P1 ?_ 34 54 mk_35 rfl rfl HT_.out (by kernel_rfl) (fun _ _ _ => id) (.inl ⟨by rfl, ?_⟩) ?_ ?_ ?_; rotate_left; (intro w'; go_simp; with_reducible rfl); rotate_left; (simp only [pa, qz, qs, qi, qj]; rfl)
      refine P1 undef 35 55 mk_36 rfl rfl HT_.out (by kernel_rfl) (fun _ _ _ => id) (.inr ⟨by rfl, rfl⟩) ?_ ?_ ?_; rotate_left; (simp only [pa, qz, qs, qi, qj]; rfl)
      refine P1 undef 36 56 mk_56 rfl rfl HT_.out (by kernel_rfl) (fun _ _ _ => id) (.inr ⟨by rfl, rfl⟩) ?_ ?_ ?_; rotate_left; (simp only [pa, qz, qs, qi, qj]; rfl)
      refine P1 undef 37 57 mk_57 rfl rfl HT_.out (by kernel_rfl) (fun _ _ _ => id) (.inr ⟨by rfl, rfl⟩) ?_ ?_ ?_; rotate_left; (simp only [pa, qz, qs, qi, qj]; rfl)
      refine P1 undef 38 58 mk_58 rfl rfl HT_.out (by kernel_rfl) (fun _ _ _ => id) (.inr ⟨by rfl, rfl⟩) ?_ ?_ ?_; rotate_left; (simp only [pa, qz, qs, qi, qj]; rfl)
      refine P1 undef 39 59 mk_40 rfl rfl HT_.out (by kernel_rfl) (fun _ _ _ => id) (.inr ⟨by rfl, rfl⟩) ?_ ?_ ?_; rotate_left; (simp only [pa, qz, qs, qi, qj]; rfl)
      refine P1 undef 40 60 mk_41 rfl rfl HT_.out (by kernel_rfl) (fun _ _ _ => id) (.inr ⟨by rfl, rfl⟩) ?_ ?_ ?_; rotate_left; (simp only [pa, qz, qs, qi, qj]; rfl)
      refine P1 undef 41 61 mk_42 rfl rfl HT_.out (by kernel_rfl) (fun _ _ _ => id) (.inr ⟨by rfl, rfl⟩) ?_ ?_ ?_; rotate_left; (simp only [pa, qz, qs, qi, qj]; rfl)
      refine P1 ?_ 42 62 mk_43 rfl rfl HT_.out (by kernel_rfl) (fun _ _ _ => id) (.inl ⟨by rfl, ?_⟩) ?_ ?_ ?_; rotate_left; (intro w'; go_simp; with_reducible rfl); rotate_left; (simp only [pa, qz, qs, qi, qj]; rfl)
      refine P1 ?_ 43 63 mk_44 rfl rfl HT_.out (by kernel_rfl) (fun _ _ _ => id) (.inl ⟨by rfl, ?_⟩) ?_ ?_ ?_; rotate_left; (intro w'; go_simp; with_reducible rfl); rotate_left; (simp only [pa, qz, qs, qi, qj]; rfl)
      refine P1 undef 44 64 mk_45 rfl rfl HT_.out (by kernel_rfl) (fun _ _ _ => id) (.inr ⟨by rfl, rfl⟩) ?_ ?_ ?_; rotate_left; (simp only [pa, qz, qs, qi, qj]; rfl)
      refine P1 undef 45 65 mk_46 rfl rfl HT_.out (by kernel_rfl) (fun _ _ _ => id) (.inr ⟨by rfl, rfl⟩) ?_ ?_ ?_; rotate_left; (simp only [pa, qz, qs, qi, qj]; rfl)
      refine P1 undef 46 66 mk_47 rfl rfl HT_.out (by kernel_rfl) (fun _ _ _ => id) (.inr ⟨by rfl, rfl⟩) ?_ ?_ ?_; rotate_left; (simp only [pa, qz, qs, qi, qj]; rfl)
      refine P1 undef 47 67 mk_48 rfl rfl HT_.out (by kernel_rfl) (fun _ _ _ => id) (.inr ⟨by rfl, rfl⟩) ?_ ?_ ?_; rotate_left; (simp only [pa, qz, qs, qi, qj]; rfl)
      refine P1 undef 48 68 mk_49 rfl rfl HT_.out (by kernel_rfl) (fun _ _ _ => id) (.inr ⟨by rfl, rfl⟩) ?_ ?_ ?_; rotate_left; (simp only [pa, qz, qs, qi, qj]; rfl)
      refine P1 undef 49 69 mk_50 rfl rfl HT_.out (by kernel_rfl) (fun _ _ _ => id) (.inr ⟨by rfl, rfl⟩) ?_ ?_ ?_; rotate_left; (simp only [pa, qz, qs, qi, qj]; rfl)
      refine P1 undef 50 70 mk_51 rfl rfl HT_.out (by kernel_rfl) (fun _ _ _ => id) (.inr ⟨by rfl, rfl⟩) ?_ ?_ ?_; rotate_left; (simp only [pa, qz, qs, qi, qj]; rfl)
      refine P1 ?_ 51 71 mk_52 rfl rfl HT_.out (by kernel_rfl) (fun _ _ _ => id) (.inl ⟨by rfl, ?_⟩) ?_ ?_ ?_; rotate_left; (intro w'; go_simp; with_reducible rfl); rotate_left; (simp only [pa, qz, qs, qi, qj]; rfl)
      refine done_ (done_of HT_.out (by kernel_rfl)) ?_
      try go_wp2
      go_meet
      case rel => exact ⟨_, (true), (by first | rfl | (simp; done) | (simp [*]; done) | (simp [wrap64]; done)), H', ⟨by first | omega | exact Nat.le_refl _⟩, ⟨by (with_reducible repeat (first | refine vN ?_ _ | refine vD ?_ | refine vA ?_ _)); exact BK254.out⟩, ⟨by repeat (first | (with_reducible first | exact HB.out | apply wA | apply wN | apply wD | refine wS ?_ GE254.out) | exact HB.out)⟩⟩
    ·rw [if_neg c15] at H
     have c15b0 : (t256 == t257) = false := beq_eq_false_iff_ne.mpr c15
     have c15b1 : (t256 != t257) = true := bne_iff_ne.mpr c15
     (first | rw [c15b0] | (simp only [qi, qj]; rw [c15b0]) | skip)
     have H' := AM H
     clear H
     try go_wp2
     have n0_ := AM (vD BK254.out)
     have n1_ := AM (wD HB.out)
     clear BK254
     clear HB
     have BK254 := n0_
     have HB := n1_
     clear n0_ n1_
     refine start_ (n := 52) (S := fun w' => True) (ds := []) mk_0 (by kernel_rfl) rfl rfl trivial (fun hHeld => ?_); refine with_tabW targumlaw2_BrkTells.tab5 targumlaw2_BrkTells.bits5 (fun HT_ HW_ => ?_)
     generalize w12.drew = w56 at BK254 HB hHeld ⊢
     refine P1 ?_ 0 20 mk_1 rfl rfl HT_.out (by kernel_rfl) (fun _ _ _ => id) (.inl ⟨by rfl, ?_⟩) ?_ ?_ ?_; rotate_left; (intro w'; go_simp; with_reducible rfl); rotate_left; (simp only [pa, qz, qs, qi, qj]; rfl)
     refine P1 ?_ 1 21 mk_2 rfl rfl HT_.out (by kernel_rfl) (fun _ _ _ => id) (.inl ⟨by rfl, ?_⟩) ?_ ?_ ?_; rotate_left; (intro w'; go_simp; with_reducible rfl); rotate_left; (simp only [pa, qz, qs, qi, qj]; rfl)
     refine P1 ?_ 2 22 mk_3 rfl rfl HT_.out (by kernel_rfl) (fun _ _ _ => id) (.inl ⟨by rfl, ?_⟩) ?_ ?_ ?_; rotate_left; (intro w'; go_simp; with_reducible rfl); rotate_left; (simp only [pa, qz, qs, qi, qj]; rfl)
     refine P1 ?_ 4 24 mk_4 rfl rfl HT_.out (by kernel_rfl) (fun _ _ _ => id) (.inl ⟨by rfl, ?_⟩) ?_ ?_ ?_; rotate_left; (intro w'; go_simp; with_reducible rfl); rotate_left; (simp only [pa, qz, qs, qi, qj]; rfl)
     refine P1 ?_ 5 25 mk_5 rfl rfl HT_.out (by kernel_rfl) (fun _ _ _ => id) (.inl ⟨by rfl, ?_⟩) ?_ ?_ ?_; rotate_left; (intro w'; go_simp; with_reducible rfl); rotate_left; (simp only [pa, qz, qs, qi, qj]; rfl)
     refine P1 ?_ 6 26 mk_6 rfl rfl HT_.out (by kernel_rfl) (fun _ _ _ => id) (.inl ⟨by rfl, ?_⟩) ?_ ?_ ?_; rotate_left; (intro w'; go_simp; with_reducible rfl); rotate_left; (simp only [pa, qz, qs, qi, qj]; rfl)
     refine one_ (i := 3) (N := some 23) mk_7 rfl rfl (one_of HT_.out (by kernel_rfl)) (by decide) (fun K hK => ?_)
     refine goes_ Tryd.func12 (by kernel_rfl) rfl #[.int .i64 a1, .string a0, .int .i64 a2] (by rfl) rfl rfl (by (try simp only [qT, qC, qN]); first | done | rfl | (simp only [qD, qU]; rfl)) ?_
     with_reducible refine (brk_Break.calls k a1 a0 a2 t256 _ A13.out).mono ?_
     rintro e w' ⟨rfl, ⟨nd, rfl⟩⟩
     refine ⟨_, rfl, ?_⟩
     refine hK.out _ _ trivial (fun hHeld => ?_)
     clear hK K
     refine norm_ (a' := ?_) ?_ ?_
     rotate_left
     ·show Act.put _ (some 23) _ = _
      simp only [Act.put, qI, qz, qs, qi, qj]
      rfl
     refine one_ (i := 7) (N := some 27) mk_8 rfl rfl (one_of HT_.out (by kernel_rfl)) (by decide) (fun K hK => ?_)
     refine goes_ Tryd.func15 (by kernel_rfl) rfl #[.int .i64 a1, .string a0, .int .i64 a2] (by rfl) rfl rfl (by (try simp only [qT, qC, qN]); first | done | rfl | (simp only [qD, qU]; rfl)) ?_
     with_reducible refine (targumref1_Break.calls k a1 a0 a2 t257 _ A14.out).mono ?_
     rintro e w' ⟨rfl, ⟨nd, rfl⟩⟩
     refine ⟨_, rfl, ?_⟩
     refine hK.out _ _ trivial (fun hHeld => ?_)
     clear hK K
     refine norm_ (a' := ?_) ?_ ?_
     rotate_left
     ·show Act.put _ (some 27) _ = _
      simp only [Act.put, qI, qz, qs, qi, qj]
      rfl
     refine P1 ?_ 8 28 mk_9 rfl rfl HT_.out (by kernel_rfl) (fun _ _ _ => id) (.inl ⟨by rfl, ?_⟩) ?_ ?_ ?_; rotate_left; (intro w'; go_simp; with_reducible rfl); rotate_left; (simp only [pa, qz, qs, qi, qj]; rfl)
     refine P1 ?_ 9 29 mk_10 rfl rfl HT_.out (by kernel_rfl) (fun _ _ _ => id) (.inl ⟨by rfl, ?_⟩) ?_ ?_ ?_; rotate_left; (intro w'; go_simp; with_reducible rfl); rotate_left; (simp only [pa, qz, qs, qi, qj]; rfl)
     refine P1 undef 10 30 mk_11 rfl rfl HT_.out (by kernel_rfl) (fun _ _ _ => id) (.inr ⟨by rfl, rfl⟩) ?_ ?_ ?_; rotate_left; (simp only [pa, qz, qs, qi, qj]; rfl)
     refine P1 undef 11 31 mk_12 rfl rfl HT_.out (by kernel_rfl) (fun _ _ _ => id) (.inr ⟨by rfl, rfl⟩) ?_ ?_ ?_; rotate_left; (simp only [pa, qz, qs, qi, qj]; rfl)
     refine P1 undef 12 32 mk_63 rfl rfl HT_.out (by kernel_rfl) (fun _ _ _ => id) (.inr ⟨by rfl, rfl⟩) ?_ ?_ ?_; rotate_left; (simp only [pa, qz, qs, qi, qj]; rfl)
     refine P1 undef 13 33 mk_64 rfl rfl HT_.out (by kernel_rfl) (fun _ _ _ => id) (.inr ⟨by rfl, rfl⟩) ?_ ?_ ?_; rotate_left; (simp only [pa, qz, qs, qi, qj]; rfl)
     refine P1 undef 14 34 mk_15 rfl rfl HT_.out (by kernel_rfl) (fun _ _ _ => id) (.inr ⟨by rfl, rfl⟩) ?_ ?_ ?_; rotate_left; (simp only [pa, qz, qs, qi, qj]; rfl)
     refine P1 undef 15 35 mk_16 rfl rfl HT_.out (by kernel_rfl) (fun _ _ _ => id) (.inr ⟨by rfl, rfl⟩) ?_ ?_ ?_; rotate_left; (simp only [pa, qz, qs, qi, qj]; rfl)
     refine P1 undef 16 36 mk_17 rfl rfl HT_.out (by kernel_rfl) (fun _ _ _ => id) (.inr ⟨by rfl, rfl⟩) ?_ ?_ ?_; rotate_left; (simp only [pa, qz, qs, qi, qj]; rfl)
     refine P1 ?_ 17 37 mk_18 rfl rfl HT_.out (by kernel_rfl) (fun _ _ _ => id) (.inl ⟨by rfl, ?_⟩) ?_ ?_ ?_; rotate_left; (intro w'; go_simp; with_reducible rfl); rotate_left; (simp only [pa, qz, qs, qi, qj]; rfl)
     refine P1 ?_ 18 38 mk_19 rfl rfl HT_.out (by kernel_rfl) (fun _ _ _ => id) (.inl ⟨by rfl, ?_⟩) ?_ ?_ ?_; rotate_left; (intro w'; go_simp; with_reducible rfl); rotate_left; (simp only [pa, qz, qs, qi, qj]; rfl)
     refine P1 undef 19 39 mk_20 rfl rfl HT_.out (by kernel_rfl) (fun _ _ _ => id) (.inr ⟨by rfl, rfl⟩) ?_ ?_ ?_; rotate_left; (simp only [pa, qz, qs, qi, qj]; rfl)
     refine P1 undef 20 40 mk_62 rfl rfl HT_.out (by kernel_rfl) (fun _ _ _ => id) (.inr ⟨by rfl, rfl⟩) ?_ ?_ ?_; rotate_left; (simp only [pa, qz, qs, qi, qj]; rfl)
     refine P1 undef 21 41 mk_22 rfl rfl HT_.out (by kernel_rfl) (fun _ _ _ => id) (.inr ⟨by rfl, rfl⟩) ?_ ?_ ?_; rotate_left; (simp only [pa, qz, qs, qi, qj]; rfl)
     refine P1 undef 22 42 mk_23 rfl rfl HT_.out (by kernel_rfl) (fun _ _ _ => id) (.inr ⟨by rfl, rfl⟩) ?_ ?_ ?_; rotate_left; (simp only [pa, qz, qs, qi, qj]; rfl)
     refine P1 undef 23 43 mk_24 rfl rfl HT_.out (by kernel_rfl) (fun _ _ _ => id) (.inr ⟨by rfl, rfl⟩) ?_ ?_ ?_; rotate_left; (simp only [pa, qz, qs, qi, qj]; rfl)
     refine P1 ?_ 24 44 mk_25 rfl rfl HT_.out (by kernel_rfl) (fun _ _ _ => id) (.inl ⟨by rfl, ?_⟩) ?_ ?_ ?_; rotate_left; (intro w'; go_simp; with_reducible rfl); rotate_left; (simp only [pa, qz, qs, qi, qj]; rfl)
     refine P1 ?_ 25 45 mk_26 rfl rfl HT_.out (by kernel_rfl) (fun _ _ _ => id) (.inl ⟨by rfl, ?_⟩) ?_ ?_ ?_; rotate_left; (intro w'; go_simp; with_reducible rfl); rotate_left; (simp only [pa, qz, qs, qi, qj]; rfl)
     refine P1 undef 26 46 mk_27 rfl rfl HT_.out (by kernel_rfl) (fun _ _ _ => id) (.inr ⟨by rfl, rfl⟩) ?_ ?_ ?_; rotate_left; (simp only [pa, qz, qs, qi, qj]; rfl)
     refine P1 undef 27 47 mk_59 rfl rfl HT_.out (by kernel_rfl) (fun _ _ _ => id) (.inr ⟨by rfl, rfl⟩) ?_ ?_ ?_; rotate_left; (simp only [pa, qz, qs, qi, qj]; rfl)
     refine P1 undef 28 48 mk_60 rfl rfl HT_.out (by kernel_rfl) (fun _ _ _ => id) (.inr ⟨by rfl, rfl⟩) ?_ ?_ ?_; rotate_left; (simp only [pa, qz, qs, qi, qj]; rfl)
     refine P1 undef 29 49 mk_61 rfl rfl HT_.out (by kernel_rfl) (fun _ _ _ => id) (.inr ⟨by rfl, rfl⟩) ?_ ?_ ?_; rotate_left; (simp only [pa, qz, qs, qi, qj]; rfl)
     refine P1 undef 30 50 mk_31 rfl rfl HT_.out (by kernel_rfl) (fun _ _ _ => id) (.inr ⟨by rfl, rfl⟩) ?_ ?_ ?_; rotate_left; (simp only [pa, qz, qs, qi, qj]; rfl)
     refine P1 undef 31 51 mk_32 rfl rfl HT_.out (by kernel_rfl) (fun _ _ _ => id) (.inr ⟨by rfl, rfl⟩) ?_ ?_ ?_; rotate_left; (simp only [pa, qz, qs, qi, qj]; rfl)
     refine P1 undef 32 52 mk_33 rfl rfl HT_.out (by kernel_rfl) (fun _ _ _ => id) (.inr ⟨by rfl, rfl⟩) ?_ ?_ ?_; rotate_left; (simp only [pa, qz, qs, qi, qj]; rfl)
     refine P1 ?_ 33 53 mk_34 rfl rfl HT_.out (by kernel_rfl) (fun _ _ _ => id) (.inl ⟨by rfl, ?_⟩) ?_ ?_ ?_; rotate_left; (intro w'; go_simp; with_reducible rfl); rotate_left; (simp only [pa, qz, qs, qi, qj]; rfl)
     refine P1 ?_ 34 54 mk_35 rfl rfl HT_.out (by kernel_rfl) (fun _ _ _ => id) (.inl ⟨by rfl, ?_⟩) ?_ ?_ ?_; rotate_left; (intro w'; go_simp; with_reducible rfl); rotate_left; (simp only [pa, qz, qs, qi, qj]; rfl)
     refine P1 undef 35 55 mk_36 rfl rfl HT_.out (by kernel_rfl) (fun _ _ _ => id) (.inr ⟨by rfl, rfl⟩) ?_ ?_ ?_; rotate_left; (simp only [pa, qz, qs, qi, qj]; rfl)
     refine P1 undef 36 56 mk_56 rfl rfl HT_.out (by kernel_rfl) (fun _ _ _ => id) (.inr ⟨by rfl, rfl⟩) ?_ ?_ ?_; rotate_left; (simp only [pa, qz, qs, qi, qj]; rfl)
     refine P1 undef 37 57 mk_57 rfl rfl HT_.out (by kernel_rfl) (fun _ _ _ => id) (.inr ⟨by rfl, rfl⟩) ?_ ?_ ?_; rotate_left; (simp only [pa, qz, qs, qi, qj]; rfl)
     refine P1 undef 38 58 mk_58 rfl rfl HT_.out (by kernel_rfl) (fun _ _ _ => id) (.inr ⟨by rfl, rfl⟩) ?_ ?_ ?_; rotate_left; (simp only [pa, qz, qs, qi, qj]; rfl)
     refine P1 undef 39 59 mk_40 rfl rfl HT_.out (by kernel_rfl) (fun _ _ _ => id) (.inr ⟨by rfl, rfl⟩) ?_ ?_ ?_; rotate_left; (simp only [pa, qz, qs, qi, qj]; rfl)
     refine P1 undef 40 60 mk_41 rfl rfl HT_.out (by kernel_rfl) (fun _ _ _ => id) (.inr ⟨by rfl, rfl⟩) ?_ ?_ ?_; rotate_left; (simp only [pa, qz, qs, qi, qj]; rfl)
     refine P1 undef 41 61 mk_42 rfl rfl HT_.out (by kernel_rfl) (fun _ _ _ => id) (.inr ⟨by rfl, rfl⟩) ?_ ?_ ?_; rotate_left; (simp only [pa, qz, qs, qi, qj]; rfl)
     refine P1 ?_ 42 62 mk_43 rfl rfl HT_.out (by kernel_rfl) (fun _ _ _ => id) (.inl ⟨by rfl, ?_⟩) ?_ ?_ ?_; rotate_left; (intro w'; go_simp; with_reducible rfl); rotate_left; (simp only [pa, qz, qs, qi, qj]; rfl)
     refine P1 ?_ 43 63 mk_44 rfl rfl HT_.out (by kernel_rfl) (fun _ _ _ => id) (.inl ⟨by rfl, ?_⟩) ?_ ?_ ?_; rotate_left; (intro w'; go_simp; with_reducible rfl); rotate_left; (simp only [pa, qz, qs, qi, qj]; rfl)
     refine P1 undef 44 64 mk_45 rfl rfl HT_.out (by kernel_rfl) (fun _ _ _ => id) (.inr ⟨by rfl, rfl⟩) ?_ ?_ ?_; rotate_left; (simp only [pa, qz, qs, qi, qj]; rfl)
     refine P1 undef 45 65 mk_46 rfl rfl HT_.out (by kernel_rfl) (fun _ _ _ => id) (.inr ⟨by rfl, rfl⟩) ?_ ?_ ?_; rotate_left; (simp only [pa, qz, qs, qi, qj]; rfl)
     refine P1 undef 46 66 mk_47 rfl rfl HT_.out (by kernel_rfl) (fun _ _ _ => id) (.inr ⟨by rfl, rfl⟩) ?_ ?_ ?_; rotate_left; (simp only [pa, qz, qs, qi, qj]; rfl)
     refine P1 undef 47 67 mk_48 rfl rfl HT_.out (by kernel_rfl) (fun _ _ _ => id) (.inr ⟨by rfl, rfl⟩) ?_ ?_ ?_; rotate_left; (simp only [pa, qz, qs, qi, qj]; rfl)
     refine P1 undef 48 68 mk_49 rfl rfl HT_.out (by kernel_rfl) (fun _ _ _ => id) (.inr ⟨by rfl, rfl⟩) ?_ ?_ ?_; rotate_left; (simp only [pa, qz, qs, qi, qj]; rfl)
     refine P1 undef 49 69 mk_50 rfl rfl HT_.out (by kernel_rfl) (fun _ _ _ => id) (.inr ⟨by rfl, rfl⟩) ?_ ?_ ?_; rotate_left; (simp only [pa, qz, qs, qi, qj]; rfl)
     refine P1 undef 50 70 mk_51 rfl rfl HT_.out (by kernel_rfl) (fun _ _ _ => id) (.inr ⟨by rfl, rfl⟩) ?_ ?_ ?_; rotate_left; (simp only [pa, qz, qs, qi, qj]; rfl)
     refine P1 ?_ 51 71 mk_52 rfl rfl HT_.out (by kernel_rfl) (fun _ _ _ => id) (.inl ⟨by rfl, ?_⟩) ?_ ?_ ?_; rotate_left; (intro w'; go_simp; with_reducible rfl); rotate_left; (simp only [pa, qz, qs, qi, qj]; rfl)
     refine done_ (done_of HT_.out (by kernel_rfl)) ?_
     try go_wp2
     go_meet
     case rel => exact ⟨_, (true), (by first | rfl | (simp; done) | (simp [*]; done) | (simp [wrap64]; done)), H', ⟨by first | omega | exact Nat.le_refl _⟩, ⟨by (with_reducible repeat (first | refine vN ?_ _ | refine vD ?_ | refine vA ?_ _)); exact BK254.out⟩, ⟨by repeat (first | (with_reducible first | exact HB.out | apply wA | apply wN | apply wD | refine wS ?_ GE254.out) | exact HB.out)⟩⟩
   case rest =>
    clear HC10
    try clear c1
    try clear p2
    try clear c12
    try clear c15
    try clear c15b0
    try clear c15b1
    try clear c17
    try clear c18
    obtain ⟨kq, x71_9, rfl, HA, HJ9, BK254, HB⟩ := hcut
    cases kq with
    | zero => exact absurd HA.out (by simp [targumlaw2_BrkTells.j0])
    | succ kj9 =>
     have H := HA.out
     clear HA
     simp only [targumlaw2_BrkTells.j0] at H
     by_cases c57 : x71_9 = true
     ·subst c57
      have H1 : (some false) = some r := by rw [if_pos rfl] at H; exact H
      clear H
      have H := H1
      clear H1
      obtain rfl := Option.some.inj H
      go_wp2
      go_ret
      exact ⟨by first | rfl | (simp [errW_none, errW_some] <;> rfl) | (simp [*, errW_none, errW_some] <;> rfl), by repeat (first | (with_reducible first | exact HB.out | apply wA | apply wN | apply wD | refine wS ?_ GE254.out) | exact HB.out)⟩
     ·replace c57 := Bool.eq_false_iff.mpr c57
      subst c57
      have H1 : ((some (([11, 12, a1] : List Int) : List Int)).bind fun y268 => (targumlaw2_BrkTells.l0 kj9 a0 y268 (y268.length : Int) 0)) = some r := by rw [if_neg (show ¬ (false = true) by decide)] at H; exact H
      clear H
      have H := H1
      clear H1
      obtain ⟨y268, hy268⟩ : ∃ y_ : List Int, y_ = (([11, 12, a1] : List Int)) := ⟨_, rfl⟩
      replace H : (targumlaw2_BrkTells.l0 kj9 a0 y268 (y268.length : Int) 0) = some r := by first | (rw [hy268]; with_reducible exact H) | (have H2_ := (Option.bind_some _ _).symm.trans H; rw [hy268]; with_reducible exact H2_) | (have H2_ := (Option.bind_some _ _).symm.trans H; with_reducible exact H2_) | with_reducible exact H | (rw [hy268]; exact H) | exact H
      have Ny268 := AM hy268
      clear hy268
      have H' := AM H
      clear H
      go_wp2_with (first | ((with_reducible refine gate_dst (N := 73) rfl ?_); refine Kd.R_lit (Kd.int .i64) _ 3 ?hg (N := 73) ?hd (xs := ([11, 12, a1] : List Int)) (inner := [.int .i64 11, .int .i64 12, .int .i64 a1]) (ok := fun _ => True) (okp := fun _ => True) ?hr ?hp (fun _ hk => hk) trivial (Below.refl _ _) (Nat.le_refl _) (by simp) ?_; (case hd => rfl); (case hg => rfl); (case hr => first | (go_simp; done) | (go_simp; rfl)); (case hp => exact (Reps.one (show Kd.M (Kd.int .i64) _ _ _ 11 [.int .i64 11] from rfl) (Reps.one (show Kd.M (Kd.int .i64) _ _ _ 12 [.int .i64 12] from rfl) (Reps.one (show Kd.M (Kd.int .i64) _ _ _ a1 [.int .i64 a1] from rfl) (Reps.none _ _))))); intro v269 w58 ho59 hb hg_ hnew_; clear hg_ hnew_; (first | rw [← Ny268.out] at ho59 | (simp only [Int.reduceToNat] at ho59; rw [← Ny268.out] at ho59)); have n0_ := AM (Kd.R_lower ho59 (below_size (by repeat (first | (with_reducible first | exact HB.out | apply wA | apply wN | apply wD | refine wS ?_ GE254.out) | exact HB.out)))); have n1_ := AM (blk_below (g := gb254) (o := .cells #[.int .i64 a3_0, .int .i64 a3_1, .int .i64 a3_2] 27 (0, 0)) (by (with_reducible repeat (first | refine vN ?_ _ | refine vD ?_ | refine vA ?_ _)); exact BK254.out) hb); have n2_ := AM (below_step (by repeat (first | (with_reducible first | exact HB.out | apply wA | apply wN | apply wD | refine wS ?_ GE254.out) | exact HB.out)) hb); clear BK254; clear HB; have HO270 := n0_; have BK254 := n1_; have HB := n2_; clear n0_ n1_ n2_; clear hb ho59; obtain ⟨Ao60, co60, eo60⟩ := Kd.R_slice HO270.out; subst eo60))
      go_loopg [75] kj9 (fun kq v75 w' => ∃ (x75_2 : Int), v75 = .int .i64 x75_2 ∧ Aside0 (targumlaw2_BrkTells.l0 kq a0 y268 (y268.length : Int) x75_2 = some r) ∧ Aside0 (kq ≤ kj9) ∧ Aside0 (Kd.R (Kd.int .i64) 3 w' w.heap.size (fun _ => True) (.slice Ao60 y268.length co60) y268) ∧ Aside0 (w'.heap[gb254]? = some (.cells #[.int .i64 a3_0, .int .i64 a3_1, .int .i64 a3_2] 27 (0, 0))) ∧ Aside0 (Below w.heap.size w w'))
      case atStart => exact ⟨(0), (by first | rfl | (simp; done) | (simp [*]; done) | (simp [wrap64]; done)), H', ⟨Nat.le_refl _⟩, ⟨by (with_reducible repeat (first | apply Kd.R_alloc | apply Kd.R_drewN | apply Kd.R_drew)); exact HO270.out⟩, ⟨by (with_reducible repeat (first | refine vN ?_ _ | refine vD ?_ | refine vA ?_ _)); exact BK254.out⟩, ⟨by repeat (first | (with_reducible first | exact HB.out | apply wA | apply wN | apply wD | refine wS ?_ GE254.out) | exact HB.out)⟩⟩
      case round =>
       clear H'
       try clear c1
       try clear p2
       try clear c5
       try clear c12
       try clear c15
       try clear c15b0
       try clear c15b1
       try clear c17
       try clear c18
       try clear c57
       try clear p2
       obtain ⟨x75_2, rfl, HA, HK2, HO_73, BK254, HB⟩ := hrel
       cases gk with
       | zero => exact absurd HA.out (by simp [targumlaw2_BrkTells.l0])
       | succ k2 =>
        have H := HA.out
        clear HA
        simp only [targumlaw2_BrkTells.l0] at H
        by_cases c61 : x75_2 < (y268.length : Int)
        ·rw [if_pos c61] at H
         have c61b0 : decide (x75_2 < (y268.length : Int)) = true := decide_eq_true c61
         clear c61
         by_cases c62 : 0 ≤ x75_2
         ·rw [if_pos c62] at H
          have c62b0 : decide (0 ≤ x75_2) = true := decide_eq_true c62
          clear c62
          by_cases c63 : x75_2 < (y268.length : Int)
          ·rw [if_pos c63] at H
           have c63b0 : decide (x75_2 < (y268.length : Int)) = true := decide_eq_true c63
           clear c63
           replace H := Option.bind_eq_some_iff.mp H
           obtain ⟨t272, A640, H⟩ := H
           replace H : ((targumref1_Lines.f k2 (rd y268 x75_2) a0).bind fun t275 => ((targumhelp_Lines.f k2 t272 t275).bind fun t278 => (if t278 = true then (targumlaw2_BrkTells.l1 k2 a0 y268 (y268.length : Int) x75_2 t272 (t272.length : Int) 0) else (some false)))) = some r := H
           have A64 := AM A640
           clear A640
           replace H := Option.bind_eq_some_iff.mp H
           obtain ⟨t275, A650, H⟩ := H
           replace H : ((targumhelp_Lines.f k2 t272 t275).bind fun t278 => (if t278 = true then (targumlaw2_BrkTells.l1 k2 a0 y268 (y268.length : Int) x75_2 t272 (t272.length : Int) 0) else (some false))) = some r := H
           have A65 := AM A650
           clear A650
           replace H := Option.bind_eq_some_iff.mp H
           obtain ⟨t278, A660, H⟩ := H
           replace H : (if t278 = true then (targumlaw2_BrkTells.l1 k2 a0 y268 (y268.length : Int) x75_2 t272 (t272.length : Int) 0) else (some false)) = some r := H
           have A66 := AM A660
           clear A660
           by_cases c67 : t278 = true
           ·subst c67
            have H1 : (targumlaw2_BrkTells.l1 k2 a0 y268 (y268.length : Int) x75_2 t272 (t272.length : Int) 0) = some r := by rw [if_pos rfl] at H; exact H
            clear H
            have H := H1
            clear H1
            have H' := AM H
            clear H
            have p271 : 0 ≤ (x75_2 : Int) := of_decide_eq_true (by first | (with_reducible assumption) | assumption)
            have q271 : x75_2 < (y268.length : Int) := of_decide_eq_true (by first | (with_reducible assumption) | assumption)
            obtain ⟨ad271, e271, hx271_0⟩ := Kd.at_int (Kd.R_reads' HO_73.out).2.2 x75_2 p271 q271
            cases e271
            replace p271 := eq_true p271
            replace q271 := eq_true q271
            go_wp2_with (first | ((with_reducible refine gate_callee (f := 11) rfl ?_); refine goesL_ (some 81) rfl rfl Tryd.func11 (by kernel_rfl) rfl #[.int .i64 (rd y268 x75_2), .string a0] rfl (by (try simp only [qT, qC, qN]); first | done | rfl | (simp only [qD, qU]; rfl)) ?_; (with_reducible refine (brk_Lines.calls k2 (rd y268 x75_2) a0 t272 _ A64.out).mono ?_); rintro e w68 ⟨v273, rfl, ho0, hb⟩; refine ⟨_, rfl, ?_⟩; have n0_ := AM (Kd.R_below (by (with_reducible repeat (first | apply Kd.R_alloc | apply Kd.R_drewN | apply Kd.R_drew)); exact HO_73.out) hb); have n1_ := AM (Kd.R_lower (Kd.R_newB ho0 (g := gb254) (o := .cells #[.int .i64 a3_0, .int .i64 a3_1, .int .i64 a3_2] 27 (0, 0)) (by (with_reducible repeat (first | refine vN ?_ _ | refine vD ?_ | refine vA ?_ _)); exact BK254.out)) (below_size (by repeat (first | (with_reducible first | exact HB.out | apply wA | apply wN | apply wD | refine wS ?_ GE254.out) | exact HB.out)))); have n2_ := AM (blk_below (g := gb254) (o := .cells #[.int .i64 a3_0, .int .i64 a3_1, .int .i64 a3_2] 27 (0, 0)) (by (with_reducible repeat (first | refine vN ?_ _ | refine vD ?_ | refine vA ?_ _)); exact BK254.out) hb); have n3_ := AM (below_step (by repeat (first | (with_reducible first | exact HB.out | apply wA | apply wN | apply wD | refine wS ?_ GE254.out) | exact HB.out)) hb); clear HO_73; clear BK254; clear HB; have HO_73 := n0_; have HO274 := n1_; have BK254 := n2_; have HB := n3_; clear n0_ n1_ n2_ n3_; (try clear hb); (try clear hb2); (try clear hk); (try clear hi); (try clear ho0)) | ((with_reducible refine gate_callee (f := 26) rfl ?_); refine goesL_ (some 85) rfl rfl Tryd.func26 (by kernel_rfl) rfl #[.int .i64 (rd y268 x75_2), .string a0] rfl (by (try simp only [qT, qC, qN]); first | done | rfl | (simp only [qD, qU]; rfl)) ?_; (with_reducible refine (targumref1_Lines.calls k2 (rd y268 x75_2) a0 t275 _ A65.out).mono ?_); rintro e w69 ⟨v276, rfl, ho0, hb⟩; refine ⟨_, rfl, ?_⟩; have n0_ := AM (Kd.R_below (by (with_reducible repeat (first | apply Kd.R_alloc | apply Kd.R_drewN | apply Kd.R_drew)); exact HO_73.out) hb); have n1_ := AM (Kd.R_elder' (by (with_reducible repeat (first | apply Kd.R_alloc | apply Kd.R_drewN | apply Kd.R_drew)); exact HO274.out) (Kd.R_base ho0) hb); have n2_ := AM (Kd.R_lower (Kd.R_newB (Kd.R_new' ho0 (Kd.R_lt (by (with_reducible repeat (first | apply Kd.R_alloc | apply Kd.R_drewN | apply Kd.R_drew)); exact HO274.out))) (g := gb254) (o := .cells #[.int .i64 a3_0, .int .i64 a3_1, .int .i64 a3_2] 27 (0, 0)) (by (with_reducible repeat (first | refine vN ?_ _ | refine vD ?_ | refine vA ?_ _)); exact BK254.out)) (below_size (by repeat (first | (with_reducible first | exact HB.out | apply wA | apply wN | apply wD | refine wS ?_ GE254.out) | exact HB.out)))); have n3_ := AM (blk_below (g := gb254) (o := .cells #[.int .i64 a3_0, .int .i64 a3_1, .int .i64 a3_2] 27 (0, 0)) (by (with_reducible repeat (first | refine vN ?_ _ | refine vD ?_ | refine vA ?_ _)); exact BK254.out) hb); have n4_ := AM (below_step (by repeat (first | (with_reducible first | exact HB.out | apply wA | apply wN | apply wD | refine wS ?_ GE254.out) | exact HB.out)) hb); clear HO_73; clear HO274; clear BK254; clear HB; have HO_73 := n0_; have HO274 := n1_; have HO277 := n2_; have BK254 := n3_; have HB := n4_; clear n0_ n1_ n2_ n3_ n4_; (try clear hb); (try clear hb2); (try clear hk); (try clear hi); (try clear ho0); obtain ⟨Ao70, co70, eo70⟩ := Kd.R_slice HO274.out; subst eo70; obtain ⟨Ao71, co71, eo71⟩ := Kd.R_slice HO277.out; subst eo71) | ((with_reducible refine gate_callee (f := 13) rfl ?_); refine goesL_ (some 86) rfl rfl Tryd.func13 (by kernel_rfl) rfl #[.slice Ao70 t272.length co70, .slice Ao71 t275.length co71] rfl (by (try simp only [qT, qC, qN]); first | done | rfl | (simp only [qD, qU]; rfl)) ?_; (with_reducible refine (targumhelp_Lines.calls k2 _ _ t272 _ _ t275 true _ ?side1 ?side2 ?side3 ?side4 A66.out).mono ?_); (case side1 => repeat (first | exact (Kd.R_reads' HO274.out).2.2 | (with_reducible refine Kd.C_alloc ?_ _) | (with_reducible refine Kd.C_drewN ?_ _) | (with_reducible refine Kd.C_drew ?_))); (case side2 => exact (Kd.R_reads' HO274.out).2.1); (case side3 => repeat (first | exact (Kd.R_reads' HO277.out).2.2 | (with_reducible refine Kd.C_alloc ?_ _) | (with_reducible refine Kd.C_drewN ?_ _) | (with_reducible refine Kd.C_drew ?_))); (case side4 => exact (Kd.R_reads' HO277.out).2.1); rintro e w' ⟨rfl, ⟨nd, rfl⟩⟩; refine ⟨_, rfl, ?_⟩))
            go_loopg [90] k2 (fun kq v90 w' => ∃ (x90_3 : Int), v90 = .int .i64 x90_3 ∧ Aside0 (targumlaw2_BrkTells.l1 kq a0 y268 (y268.length : Int) x75_2 t272 (t272.length : Int) x90_3 = some r) ∧ Aside0 (kq ≤ k2) ∧ Aside0 (Kd.R (Kd.int .i64) 3 w' w.heap.size (fun _ => True) (.slice (some ad271) y268.length co60) y268) ∧ Aside0 (Kd.R k27 27 w' w.heap.size (fun k_ => k_ ≠ gb254) (.slice Ao70 t272.length co70) t272) ∧ Aside0 (w'.heap[gb254]? = some (.cells #[.int .i64 a3_0, .int .i64 a3_1, .int .i64 a3_2] 27 (0, 0))) ∧ Aside0 (Below w.heap.size w w'))
            case atStart => exact ⟨(0), (by first | rfl | (simp; done) | (simp [*]; done) | (simp [wrap64]; done)), H', ⟨Nat.le_refl _⟩, ⟨by (with_reducible repeat (first | apply Kd.R_alloc | apply Kd.R_drewN | apply Kd.R_drew)); exact HO_73.out⟩, ⟨by (with_reducible repeat (first | apply Kd.R_alloc | apply Kd.R_drewN | apply Kd.R_drew)); exact Kd.R_mono HO274.out (fun _ hk => hk.1.2)⟩, ⟨by (with_reducible repeat (first | refine vN ?_ _ | refine vD ?_ | refine vA ?_ _)); exact BK254.out⟩, ⟨by repeat (first | (with_reducible first | exact HB.out | apply wA | apply wN | apply wD | refine wS ?_ GE254.out) | exact HB.out)⟩⟩
            case round =>
             clear H'
             try clear c1
             try clear c2
             try clear p2
             try clear q2
             try clear hx2
             try clear c5
             try clear c6
             try clear c11
             try clear c12
             try clear c13
             try clear c15
             try clear c15b0
             try clear c15b1
             try clear c17
             try clear c18
             try clear c26
             try clear p27
             try clear q27
             try clear hx27
             try clear c57
             try clear c61
             try clear c61b0
             try clear c62
             try clear c62b0
             try clear c63
             try clear c63b0
             try clear c67
             try clear hx271_0
             try clear p2
             try clear p271
             try clear q271
             obtain ⟨x90_3, rfl, HA, HK3, HO_73, HO_88, BK254, HB⟩ := hrel
             cases gk with
             | zero => exact absurd HA.out (by simp [targumlaw2_BrkTells.l1])
             | succ k3 =>
              have H := HA.out
              clear HA
              simp only [targumlaw2_BrkTells.l1] at H
              by_cases c72 : x90_3 < (t272.length : Int)
              ·rw [if_pos c72] at H
               have c72b0 : decide (x90_3 < (t272.length : Int)) = true := decide_eq_true c72
               clear c72
               by_cases c73 : 0 ≤ x90_3
               ·rw [if_pos c73] at H
                have c73b0 : decide (0 ≤ x90_3) = true := decide_eq_true c73
                clear c73
                by_cases c74 : x90_3 < (t272.length : Int)
                ·rw [if_pos c74] at H
                 have c74b0 : decide (x90_3 < (t272.length : Int)) = true := decide_eq_true c74
                 clear c74
                 replace H := Option.bind_eq_some_iff.mp H
                 obtain ⟨t281, A750, H⟩ := H
                 replace H : ((targumref1_Indent.f k3 a0 ((rd_T27 t272 x90_3).f0) ((rd_T27 t272 x90_3).f1) ((rd_T27 t272 x90_3).f2)).bind fun t282 => (if t281 = t282 then ((brk_Blank.f a0 ((rd_T27 t272 x90_3).f0) ((rd_T27 t272 x90_3).f1) ((rd_T27 t272 x90_3).f2)).bind fun t283 => ((targumref1_Blank.f k3 a0 ((rd_T27 t272 x90_3).f0) ((rd_T27 t272 x90_3).f1) ((rd_T27 t272 x90_3).f2)).bind fun t284 => (if (t283 != t284) = true then (some false) else ((brk_Marker.f k3 a0 ((rd_T27 t272 x90_3).f0) ((rd_T27 t272 x90_3).f1) ((rd_T27 t272 x90_3).f2)).bind fun t285 => ((targumref1_Marker.f k3 a0 ((rd_T27 t272 x90_3).f0) ((rd_T27 t272 x90_3).f1) ((rd_T27 t272 x90_3).f2)).bind fun t286 => (if t285 = t286 then (targumlaw2_BrkTells.l1 k3 a0 y268 (y268.length : Int) x75_2 t272 (t272.length : Int) (wrap64 (x90_3 + 1))) else (some false))))))) else (some false))) = some r := H
                 have A75 := AM A750
                 clear A750
                 replace H := Option.bind_eq_some_iff.mp H
                 obtain ⟨t282, A760, H⟩ := H
                 replace H : (if t281 = t282 then ((brk_Blank.f a0 ((rd_T27 t272 x90_3).f0) ((rd_T27 t272 x90_3).f1) ((rd_T27 t272 x90_3).f2)).bind fun t283 => ((targumref1_Blank.f k3 a0 ((rd_T27 t272 x90_3).f0) ((rd_T27 t272 x90_3).f1) ((rd_T27 t272 x90_3).f2)).bind fun t284 => (if (t283 != t284) = true then (some false) else ((brk_Marker.f k3 a0 ((rd_T27 t272 x90_3).f0) ((rd_T27 t272 x90_3).f1) ((rd_T27 t272 x90_3).f2)).bind fun t285 => ((targumref1_Marker.f k3 a0 ((rd_T27 t272 x90_3).f0) ((rd_T27 t272 x90_3).f1) ((rd_T27 t272 x90_3).f2)).bind fun t286 => (if t285 = t286 then (targumlaw2_BrkTells.l1 k3 a0 y268 (y268.length : Int) x75_2 t272 (t272.length : Int) (wrap64 (x90_3 + 1))) else (some false))))))) else (some false)) = some r := H
                 have A76 := AM A760
                 clear A760
                 by_cases c77 : t281 = t282
                 ·rw [if_pos c77] at H
                  have c77b0 : (t281 == t282) = true := beq_iff_eq.mpr c77
                  have c77b1 : (t281 != t282) = false := bne_eq_false_iff_eq.mpr c77
                  clear c77
                  replace H := Option.bind_eq_some_iff.mp H
                  obtain ⟨t283, A780, H⟩ := H
                  replace H : ((targumref1_Blank.f k3 a0 ((rd_T27 t272 x90_3).f0) ((rd_T27 t272 x90_3).f1) ((rd_T27 t272 x90_3).f2)).bind fun t284 => (if (t283 != t284) = true then (some false) else ((brk_Marker.f k3 a0 ((rd_T27 t272 x90_3).f0) ((rd_T27 t272 x90_3).f1) ((rd_T27 t272 x90_3).f2)).bind fun t285 => ((targumref1_Marker.f k3 a0 ((rd_T27 t272 x90_3).f0) ((rd_T27 t272 x90_3).f1) ((rd_T27 t272 x90_3).f2)).bind fun t286 => (if t285 = t286 then (targumlaw2_BrkTells.l1 k3 a0 y268 (y268.length : Int) x75_2 t272 (t272.length : Int) (wrap64 (x90_3 + 1))) else (some false)))))) = some r := H
                  have A78 := AM A780
                  clear A780
                  replace H := Option.bind_eq_some_iff.mp H
                  obtain ⟨t284, A790, H⟩ := H
                  replace H : (if (t283 != t284) = true then (some false) else ((brk_Marker.f k3 a0 ((rd_T27 t272 x90_3).f0) ((rd_T27 t272 x90_3).f1) ((rd_T27 t272 x90_3).f2)).bind fun t285 => ((targumref1_Marker.f k3 a0 ((rd_T27 t272 x90_3).f0) ((rd_T27 t272 x90_3).f1) ((rd_T27 t272 x90_3).f2)).bind fun t286 => (if t285 = t286 then (targumlaw2_BrkTells.l1 k3 a0 y268 (y268.length : Int) x75_2 t272 (t272.length : Int) (wrap64 (x90_3 + 1))) else (some false))))) = some r := H
                  have A79 := AM A790
                  clear A790
                  by_cases c80 : (t283 != t284) = true
                  ·rw [if_pos c80] at H
                   have c80b0 : (t283 != t284) = true := c80
                   (try (have c80b1 : decide (t283 = t284) = false := by simpa using c80))
                   (try (have c80b2 : (t283 == t284) = false := by simpa using c80))
                   (try (have c80b3 : ¬ (t283 = t284) := by simpa using c80))
                   clear c80
                   obtain rfl := Option.some.inj H
                   have p279 : 0 ≤ (x90_3 : Int) := of_decide_eq_true (by first | (with_reducible assumption) | assumption)
                   have q279 : x90_3 < (t272.length : Int) := of_decide_eq_true (by first | (with_reducible assumption) | assumption)
                   obtain ⟨ad279, e279, hx279_0, hx279_1, hx279_2⟩ := at_T27 (Kd.R_reads' HO_88.out).2.2 x90_3 p279 q279
                   cases e279
                   replace p279 := eq_true p279
                   replace q279 := eq_true q279
                   try go_wp2_with (first | ((with_reducible refine gate_dst (N := 13) rfl ?_); refine box_event ?hg (N := 13) ?hd (cs := #[.int .i64 0, .int .i64 0, .int .i64 0]) (t := 27) ?hr ?_; (case hd => rfl); (case hg => rfl); (case hr => first | (go_simp; done) | (go_simp; rfl)); intro gb280 hg w81 hbox hb; have n0_ := AM (Kd.R_below (by (with_reducible repeat (first | apply Kd.R_alloc | apply Kd.R_drewN | apply Kd.R_drew)); exact HO_73.out) hb); have n1_ := AM (Kd.R_below (Kd.R_elderB (by (with_reducible repeat (first | apply Kd.R_alloc | apply Kd.R_drewN | apply Kd.R_drew)); exact HO_88.out) gb280 (Nat.le_of_eq hg.symm)) hb); have n2_ := AM (blk_below (g := gb254) (o := .cells #[.int .i64 a3_0, .int .i64 a3_1, .int .i64 a3_2] 27 (0, 0)) (by (with_reducible repeat (first | refine vN ?_ _ | refine vD ?_ | refine vA ?_ _)); exact BK254.out) hb); have n3_ := AM (below_step (by repeat (first | (with_reducible first | exact HB.out | apply wA | apply wN | apply wD | refine wS ?_ GE254.out) | exact HB.out)) hb); have n4_ := AM (hbox); have n5_ := AM ((by rw [hg]; exact (below_size (by repeat (first | (with_reducible first | exact HB.out | apply wA | apply wN | apply wD | refine wS ?_ GE254.out) | exact HB.out))) : w.heap.size ≤ gb280)); have n6_ := AM ((by rw [hg]; exact (below_size (by repeat (first | (with_reducible first | exact HB.out | apply wA | apply wN | apply wD | refine wS ?_ GE254.out) | exact HB.out))) : w.heap.size ≤ gb280)); have n7_ := AM ((by rw [hg]; exact Nat.ne_of_lt (blk_lt (g := gb254) (o := .cells #[.int .i64 a3_0, .int .i64 a3_1, .int .i64 a3_2] 27 (0, 0)) (by (with_reducible repeat (first | refine vN ?_ _ | refine vD ?_ | refine vA ?_ _)); exact BK254.out)) : gb254 ≠ gb280)); have n8_ := AM ((by rw [hg]; exact Nat.ne_of_gt (blk_lt (g := gb254) (o := .cells #[.int .i64 a3_0, .int .i64 a3_1, .int .i64 a3_2] 27 (0, 0)) (by (with_reducible repeat (first | refine vN ?_ _ | refine vD ?_ | refine vA ?_ _)); exact BK254.out)) : gb280 ≠ gb254)); clear HO_73; clear HO_88; clear BK254; clear HB; have HO_73 := n0_; have HO_88 := n1_; have BK254 := n2_; have HB := n3_; have BK280 := n4_; have GW280 := n5_; have GE280 := n6_; have NB254_280 := n7_; have NB280_254 := n8_; clear n0_ n1_ n2_ n3_ n4_ n5_ n6_ n7_ n8_; clear hb hbox hg; have hnb82 := NB280_254.out; have hnc82 := NB254_280.out; have hcz83_0 : w81.cell? ⟨gb280, 0, none⟩ = some (.int .i64 0) := (blk_cell BK280.out 0).trans rfl; have hcz83_1 : w81.cell? ⟨gb280, 1, none⟩ = some (.int .i64 0) := (blk_cell BK280.out 1).trans rfl; have hcz83_2 : w81.cell? ⟨gb280, 2, none⟩ = some (.int .i64 0) := (blk_cell BK280.out 2).trans rfl; have hfz83_0 := blk_frozen BK280.out 0; have hfz83_1 := blk_frozen BK280.out 1; have hfz83_2 := blk_frozen BK280.out 2))
                   have n0_ : Aside0 (Kd.R (Kd.int .i64) 3 (((w81.setCell ⟨gb280, 0, none⟩ (.int .i64 ((rd_T27 t272 x90_3).f0))).setCell ⟨gb280, 1, none⟩ (.int .i64 ((rd_T27 t272 x90_3).f1))).setCell ⟨gb280, 2, none⟩ (.int .i64 ((rd_T27 t272 x90_3).f2))) w.heap.size (fun _ => True) (.slice (some ad271) y268.length co60) y268) := ⟨by (with_reducible repeat (first | apply Kd.R_alloc | apply Kd.R_drewN | apply Kd.R_drew)); exact Kd.R_mono (Kd.R_far (p := ⟨gb280, 2, none⟩) (Kd.R_far (p := ⟨gb280, 1, none⟩) (Kd.R_far (p := ⟨gb280, 0, none⟩) (Kd.R_types HO_73.out BK280.out (by decide)) (fun _ hk => hk.2) (.int .i64 ((rd_T27 t272 x90_3).f0))) (fun _ hk => hk.2) (.int .i64 ((rd_T27 t272 x90_3).f1))) (fun _ hk => hk.2) (.int .i64 ((rd_T27 t272 x90_3).f2))) (fun _ hk => trivial)⟩
                   have n1_ : Aside0 (Kd.R k27 27 (((w81.setCell ⟨gb280, 0, none⟩ (.int .i64 ((rd_T27 t272 x90_3).f0))).setCell ⟨gb280, 1, none⟩ (.int .i64 ((rd_T27 t272 x90_3).f1))).setCell ⟨gb280, 2, none⟩ (.int .i64 ((rd_T27 t272 x90_3).f2))) w.heap.size (fun k_ => k_ ≠ gb254 ∧ k_ ≠ gb280) (.slice (some ad279) t272.length co70) t272) := ⟨by (with_reducible repeat (first | apply Kd.R_alloc | apply Kd.R_drewN | apply Kd.R_drew)); exact Kd.R_mono (Kd.R_far (p := ⟨gb280, 2, none⟩) (Kd.R_far (p := ⟨gb280, 1, none⟩) (Kd.R_far (p := ⟨gb280, 0, none⟩) (Kd.R_mono HO_88.out (fun k_ hk => (⟨hk, hk.2⟩ : _ ∧ k_ ≠ gb280))) (fun _ hk => hk.2) (.int .i64 ((rd_T27 t272 x90_3).f0))) (fun _ hk => hk.2) (.int .i64 ((rd_T27 t272 x90_3).f1))) (fun _ hk => hk.2) (.int .i64 ((rd_T27 t272 x90_3).f2))) (fun _ hk => ⟨hk.1.1, hk.1.2⟩)⟩
                   have n2_ : Aside0 ((((w81.setCell ⟨gb280, 0, none⟩ (.int .i64 ((rd_T27 t272 x90_3).f0))).setCell ⟨gb280, 1, none⟩ (.int .i64 ((rd_T27 t272 x90_3).f1))).setCell ⟨gb280, 2, none⟩ (.int .i64 ((rd_T27 t272 x90_3).f2))).heap[gb254]? = some (.cells #[.int .i64 a3_0, .int .i64 a3_1, .int .i64 a3_2] 27 (0, 0))) := ⟨by (with_reducible repeat (first | refine vN ?_ _ | refine vD ?_ | refine vA ?_ _)); refine blk_far ?_ NB254_280.out _; (with_reducible repeat (first | refine vN ?_ _ | refine vD ?_ | refine vA ?_ _)); refine blk_far ?_ NB254_280.out _; (with_reducible repeat (first | refine vN ?_ _ | refine vD ?_ | refine vA ?_ _)); refine blk_far ?_ NB254_280.out _; (with_reducible repeat (first | refine vN ?_ _ | refine vD ?_ | refine vA ?_ _)); exact BK254.out⟩
                   have n3_ : Aside0 ((((w81.setCell ⟨gb280, 0, none⟩ (.int .i64 ((rd_T27 t272 x90_3).f0))).setCell ⟨gb280, 1, none⟩ (.int .i64 ((rd_T27 t272 x90_3).f1))).setCell ⟨gb280, 2, none⟩ (.int .i64 ((rd_T27 t272 x90_3).f2))).heap[gb280]? = some (.cells #[.int .i64 ((rd_T27 t272 x90_3).f0), .int .i64 ((rd_T27 t272 x90_3).f1), .int .i64 ((rd_T27 t272 x90_3).f2)] 27 (0, 0))) := ⟨by (with_reducible repeat (first | refine vN ?_ _ | refine vD ?_ | refine vA ?_ _)); refine blk_put (cs := #[.int .i64 ((rd_T27 t272 x90_3).f0), .int .i64 ((rd_T27 t272 x90_3).f1), .int .i64 0]) ?_ 2 _ rfl; (with_reducible repeat (first | refine vN ?_ _ | refine vD ?_ | refine vA ?_ _)); refine blk_put (cs := #[.int .i64 ((rd_T27 t272 x90_3).f0), .int .i64 0, .int .i64 0]) ?_ 1 _ rfl; (with_reducible repeat (first | refine vN ?_ _ | refine vD ?_ | refine vA ?_ _)); refine blk_put (cs := #[.int .i64 0, .int .i64 0, .int .i64 0]) ?_ 0 _ rfl; (with_reducible repeat (first | refine vN ?_ _ | refine vD ?_ | refine vA ?_ _)); exact BK280.out⟩
                   have n4_ : Aside0 (Below w.heap.size w (((w81.setCell ⟨gb280, 0, none⟩ (.int .i64 ((rd_T27 t272 x90_3).f0))).setCell ⟨gb280, 1, none⟩ (.int .i64 ((rd_T27 t272 x90_3).f1))).setCell ⟨gb280, 2, none⟩ (.int .i64 ((rd_T27 t272 x90_3).f2)))) := ⟨by repeat (first | (with_reducible first | exact HB.out | apply wA | apply wN | apply wD | refine wS ?_ GE254.out | refine wS ?_ GE280.out) | exact HB.out)⟩
                   (try clear HO_73)
                   (try clear HO_88)
                   (try clear BK254)
                   (try clear BK280)
                   (try clear HB)
                   generalize (((w81.setCell ⟨gb280, 0, none⟩ (.int .i64 ((rd_T27 t272 x90_3).f0))).setCell ⟨gb280, 1, none⟩ (.int .i64 ((rd_T27 t272 x90_3).f1))).setCell ⟨gb280, 2, none⟩ (.int .i64 ((rd_T27 t272 x90_3).f2))) = w84 at n0_ n1_ n2_ n3_ n4_ ⊢
                   have HO_73 := n0_
                   have HO_88 := n1_
                   have BK254 := n2_
                   have BK280 := n3_
                   have HB := n4_
                   clear n0_ n1_ n2_ n3_ n4_
                   have n0_ := AM (Kd.R_drew HO_73.out)
                   have n1_ := AM (Kd.R_drew HO_88.out)
                   have n2_ := AM (vD BK254.out)
                   have n3_ := AM (vD BK280.out)
                   have n4_ := AM (wD HB.out)
                   clear HO_73
                   clear HO_88
                   clear BK254
                   clear BK280
                   clear HB
                   have HO_73 := n0_
                   have HO_88 := n1_
                   have BK254 := n2_
                   have BK280 := n3_
                   have HB := n4_
                   clear n0_ n1_ n2_ n3_ n4_
                   refine start_ (n := 25) (S := fun w' => w'.cell? ⟨gb280, 0, none⟩ = some (.int .i64 ((rd_T27 t272 x90_3).f0)) ∧ w'.cell? ⟨gb280, 1, none⟩ = some (.int .i64 ((rd_T27 t272 x90_3).f1)) ∧ w'.cell? ⟨gb280, 2, none⟩ = some (.int .i64 ((rd_T27 t272 x90_3).f2))) (ds := []) mk_65 (by kernel_rfl) rfl rfl ⟨(blk_cell BK280.out 0).trans rfl, (blk_cell BK280.out 1).trans rfl, (blk_cell BK280.out 2).trans rfl⟩ (fun hHeld => ?_); refine with_tabW targumlaw2_BrkTells.tab16 targumlaw2_BrkTells.bits16 (fun HT_ HW_ => ?_)
                   generalize w84.drew = w85 at HO_73 HO_88 BK254 BK280 HB hHeld ⊢
                   refine P1 ?_ 0 94 mk_66 rfl rfl HT_.out (by kernel_rfl) (fun _ _ _ => id) (.inl ⟨by rfl, ?_⟩) ?_ ?_ ?_; rotate_left; (intro w'; go_simp; with_reducible rfl); rotate_left; (simp only [pa, qz, qs, qi, qj]; rfl)
                   refine P1 ?_ 3 97 mk_67 rfl rfl HT_.out (by kernel_rfl) (fun _ _ _ => id) (.inl ⟨by rfl, ?_⟩) ?_ ?_ ?_; rotate_left; (intro w'; go_simp; with_reducible rfl); rotate_left; (simp only [pa, qz, qs, qi, qj]; rfl)
                   refine T1 ?_ 1 95 mk_68 rfl rfl HT_.out HW_.out (by kernel_rfl) (fun _ _ _ => id) (.inl ⟨by rfl, ?_⟩) hHeld ?_ ?_ ?_; rotate_left; (rintro w' ⟨s0, s1, s2⟩; go_simp; with_reducible rfl); rotate_left; (simp only [pa, qz, qs, qi, qj]; rfl)
                   refine T1 ?_ 4 98 mk_69 rfl rfl HT_.out HW_.out (by kernel_rfl) (fun _ _ _ => id) (.inl ⟨by rfl, ?_⟩) hHeld ?_ ?_ ?_; rotate_left; (rintro w' ⟨s0, s1, s2⟩; go_simp; with_reducible rfl); rotate_left; (simp only [pa, qz, qs, qi, qj]; rfl)
                   refine one_ (i := 2) (N := some 96) mk_70 rfl rfl (one_of HT_.out (by kernel_rfl)) (by decide) (fun K hK => ?_)
                   refine goes_ Tryd.func20 (by kernel_rfl) rfl #[.string a0, .agg #[.int .i64 ((rd_T27 t272 x90_3).f0), .int .i64 ((rd_T27 t272 x90_3).f1), .int .i64 ((rd_T27 t272 x90_3).f2)]] (by rfl) rfl rfl (by (try simp only [qT, qC, qN]); first | done | rfl | (simp only [qD, qU]; rfl)) ?_
                   with_reducible refine (brk_Indent.calls a0 ((rd_T27 t272 x90_3).f0) ((rd_T27 t272 x90_3).f1) ((rd_T27 t272 x90_3).f2) t281 _ A75.out).mono ?_
                   rintro e w86 ⟨rfl, hb⟩
                   refine ⟨_, rfl, ?_⟩
                   have n0_ := AM (Kd.R_below (by (with_reducible repeat (first | apply Kd.R_alloc | apply Kd.R_drewN | apply Kd.R_drew)); exact HO_73.out) hb)
                   have n1_ := AM (Kd.R_below (by (with_reducible repeat (first | apply Kd.R_alloc | apply Kd.R_drewN | apply Kd.R_drew)); exact HO_88.out) hb)
                   have n2_ := AM (blk_below (g := gb254) (o := .cells #[.int .i64 a3_0, .int .i64 a3_1, .int .i64 a3_2] 27 (0, 0)) (by (with_reducible repeat (first | refine vN ?_ _ | refine vD ?_ | refine vA ?_ _)); exact BK254.out) hb)
                   have n3_ := AM (blk_below (g := gb280) (o := .cells #[.int .i64 ((rd_T27 t272 x90_3).f0), .int .i64 ((rd_T27 t272 x90_3).f1), .int .i64 ((rd_T27 t272 x90_3).f2)] 27 (0, 0)) (by (with_reducible repeat (first | refine vN ?_ _ | refine vD ?_ | refine vA ?_ _)); exact BK280.out) hb)
                   have n4_ := AM (below_step (by repeat (first | (with_reducible first | exact HB.out | apply wA | apply wN | apply wD | refine wS ?_ GE254.out | refine wS ?_ GE280.out) | exact HB.out)) hb)
                   clear HO_73
                   clear HO_88
                   clear BK254
                   clear BK280
                   clear HB
                   have HO_73 := n0_
                   have HO_88 := n1_
                   have BK254 := n2_
                   have BK280 := n3_
                   have HB := n4_
                   clear n0_ n1_ n2_ n3_ n4_
                   (try clear hb)
                   (try clear hb2)
                   (try clear hk)
                   (try clear hi)
                   refine hK.out _ _ ⟨(blk_cell BK280.out 0).trans rfl, (blk_cell BK280.out 1).trans rfl, (blk_cell BK280.out 2).trans rfl⟩ (fun hHeld => ?_)
                   clear hK K
                   refine norm_ (a' := ?_) ?_ ?_
                   rotate_left
                   ·show Act.put _ (some 96) _ = _
                    simp only [Act.put, qI, qz, qs, qi, qj]
                    rfl
                   refine one_ (i := 5) (N := some 99) mk_71 rfl rfl (one_of HT_.out (by kernel_rfl)) (by decide) (fun K hK => ?_)
                   refine goes_ Tryd.func21 (by kernel_rfl) rfl #[.string a0, .agg #[.int .i64 ((rd_T27 t272 x90_3).f0), .int .i64 ((rd_T27 t272 x90_3).f1), .int .i64 ((rd_T27 t272 x90_3).f2)]] (by rfl) rfl rfl (by (try simp only [qT, qC, qN]); first | done | rfl | (simp only [qD, qU]; rfl)) ?_
                   with_reducible refine (targumref1_Indent.calls k3 a0 ((rd_T27 t272 x90_3).f0) ((rd_T27 t272 x90_3).f1) ((rd_T27 t272 x90_3).f2) t282 _ A76.out).mono ?_
                   rintro e w87 ⟨rfl, hb⟩
                   refine ⟨_, rfl, ?_⟩
                   have n0_ := AM (Kd.R_below (by (with_reducible repeat (first | apply Kd.R_alloc | apply Kd.R_drewN | apply Kd.R_drew)); exact HO_73.out) hb)
                   have n1_ := AM (Kd.R_below (by (with_reducible repeat (first | apply Kd.R_alloc | apply Kd.R_drewN | apply Kd.R_drew)); exact HO_88.out) hb)
                   have n2_ := AM (blk_below (g := gb254) (o := .cells #[.int .i64 a3_0, .int .i64 a3_1, .int .i64 a3_2] 27 (0, 0)) (by (with_reducible repeat (first | refine vN ?_ _ | refine vD ?_ | refine vA ?_ _)); exact BK254.out) hb)
                   have n3_ := AM (blk_below (g := gb280) (o := .cells #[.int .i64 ((rd_T27 t272 x90_3).f0), .int .i64 ((rd_T27 t272 x90_3).f1), .int .i64 ((rd_T27 t272 x90_3).f2)] 27 (0, 0)) (by (with_reducible repeat (first | refine vN ?_ _ | refine vD ?_ | refine vA ?_ _)); exact BK280.out) hb)
                   have n4_ := AM (below_step (by repeat (first | (with_reducible first | exact HB.out | apply wA | apply wN | apply wD | refine wS ?_ GE254.out | refine wS ?_ GE280.out) | exact HB.out)) hb)
                   clear HO_73
                   clear HO_88
                   clear BK254
                   clear BK280
                   clear HB
                   have HO_73 := n0_
                   have HO_88 := n1_
                   have BK254 := n2_
                   have BK280 := n3_
                   have HB := n4_
                   clear n0_ n1_ n2_ n3_ n4_
                   (try clear hb)
                   (try clear hb2)
                   (try clear hk)
                   (try clear hi)
                   refine hK.out _ _ ⟨(blk_cell BK280.out 0).trans rfl, (blk_cell BK280.out 1).trans rfl, (blk_cell BK280.out 2).trans rfl⟩ (fun hHeld => ?_)
                   clear hK K
                   refine norm_ (a' := ?_) ?_ ?_
                   rotate_left
                   ·show Act.put _ (some 99) _ = _
                    simp only [Act.put, qI, qz, qs, qi, qj]
                    rfl
                   refine P1 ?_ 6 100 mk_72 rfl rfl HT_.out (by kernel_rfl) (fun _ _ _ => id) (.inl ⟨by rfl, ?_⟩) ?_ ?_ ?_; rotate_left; (intro w'; go_simp; with_reducible rfl); rotate_left; (simp only [pa, qz, qs, qi, qj]; rfl)
                   refine P1 ?_ 7 101 mk_73 rfl rfl HT_.out (by kernel_rfl) (fun _ _ _ => id) (.inl ⟨by rfl, ?_⟩) ?_ ?_ ?_; rotate_left; (intro w'; go_simp; with_reducible rfl); rotate_left; (simp only [pa, qz, qs, qi, qj]; rfl)
                   refine P1 ?_ 8 102 mk_74 rfl rfl HT_.out (by kernel_rfl) (fun _ _ _ => id) (.inl ⟨by rfl, ?_⟩) ?_ ?_ ?_; rotate_left; (intro w'; go_simp; with_reducible rfl); rotate_left; (simp only [pa, qz, qs, qi, qj]; rfl)
                   refine P1 ?_ 11 105 mk_75 rfl rfl HT_.out (by kernel_rfl) (fun _ _ _ => id) (.inl ⟨by rfl, ?_⟩) ?_ ?_ ?_; rotate_left; (intro w'; go_simp; with_reducible rfl); rotate_left; (simp only [pa, qz, qs, qi, qj]; rfl)
                   refine T1 ?_ 9 103 mk_76 rfl rfl HT_.out HW_.out (by kernel_rfl) (fun _ _ _ => id) (.inl ⟨by rfl, ?_⟩) hHeld ?_ ?_ ?_; rotate_left; (rintro w' ⟨s0, s1, s2⟩; go_simp; with_reducible rfl); rotate_left; (simp only [pa, qz, qs, qi, qj]; rfl)
                   refine T1 ?_ 12 106 mk_77 rfl rfl HT_.out HW_.out (by kernel_rfl) (fun _ _ _ => id) (.inl ⟨by rfl, ?_⟩) hHeld ?_ ?_ ?_; rotate_left; (rintro w' ⟨s0, s1, s2⟩; go_simp; with_reducible rfl); rotate_left; (simp only [pa, qz, qs, qi, qj]; rfl)
                   refine one_ (i := 10) (N := some 104) mk_78 rfl rfl (one_of HT_.out (by kernel_rfl)) (by decide) (fun K hK => ?_)
                   refine goes_ Tryd.func22 (by kernel_rfl) rfl #[.string a0, .agg #[.int .i64 ((rd_T27 t272 x90_3).f0), .int .i64 ((rd_T27 t272 x90_3).f1), .int .i64 ((rd_T27 t272 x90_3).f2)]] (by rfl) rfl rfl (by (try simp only [qT, qC, qN]); first | done | rfl | (simp only [qD, qU]; rfl)) ?_
                   with_reducible refine (brk_Blank.calls a0 ((rd_T27 t272 x90_3).f0) ((rd_T27 t272 x90_3).f1) ((rd_T27 t272 x90_3).f2) t283 _ A78.out).mono ?_
                   rintro e w88 ⟨rfl, hb⟩
                   refine ⟨_, rfl, ?_⟩
                   have n0_ := AM (Kd.R_below (by (with_reducible repeat (first | apply Kd.R_alloc | apply Kd.R_drewN | apply Kd.R_drew)); exact HO_73.out) hb)
                   have n1_ := AM (Kd.R_below (by (with_reducible repeat (first | apply Kd.R_alloc | apply Kd.R_drewN | apply Kd.R_drew)); exact HO_88.out) hb)
                   have n2_ := AM (blk_below (g := gb254) (o := .cells #[.int .i64 a3_0, .int .i64 a3_1, .int .i64 a3_2] 27 (0, 0)) (by (with_reducible repeat (first | refine vN ?_ _ | refine vD ?_ | refine vA ?_ _)); exact BK254.out) hb)
                   have n3_ := AM (blk_below (g := gb280) (o := .cells #[.int .i64 ((rd_T27 t272 x90_3).f0), .int .i64 ((rd_T27 t272 x90_3).f1), .int .i64 ((rd_T27 t272 x90_3).f2)] 27 (0, 0)) (by (with_reducible repeat (first | refine vN ?_ _ | refine vD ?_ | refine vA ?_ _)); exact BK280.out) hb)
                   have n4_ := AM (below_step (by repeat (first | (with_reducible first | exact HB.out | apply wA | apply wN | apply wD | refine wS ?_ GE254.out | refine wS ?_ GE280.out) | exact HB.out)) hb)
                   clear HO_73
                   clear HO_88
                   clear BK254
                   clear BK280
                   clear HB
                   have HO_73 := n0_
                   have HO_88 := n1_
                   have BK254 := n2_
                   have BK280 := n3_
                   have HB := n4_
                   clear n0_ n1_ n2_ n3_ n4_
                   (try clear hb)
                   (try clear hb2)
                   (try clear hk)
                   (try clear hi)
                   refine hK.out _ _ ⟨(blk_cell BK280.out 0).trans rfl, (blk_cell BK280.out 1).trans rfl, (blk_cell BK280.out 2).trans rfl⟩ (fun hHeld => ?_)
                   clear hK K
                   refine norm_ (a' := ?_) ?_ ?_
                   rotate_left
                   ·show Act.put _ (some 104) _ = _
                    simp only [Act.put, qI, qz, qs, qi, qj]
                    rfl
                   refine one_ (i := 13) (N := some 107) mk_79 rfl rfl (one_of HT_.out (by kernel_rfl)) (by decide) (fun K hK => ?_)
                   refine goes_ Tryd.func23 (by kernel_rfl) rfl #[.string a0, .agg #[.int .i64 ((rd_T27 t272 x90_3).f0), .int .i64 ((rd_T27 t272 x90_3).f1), .int .i64 ((rd_T27 t272 x90_3).f2)]] (by rfl) rfl rfl (by (try simp only [qT, qC, qN]); first | done | rfl | (simp only [qD, qU]; rfl)) ?_
                   with_reducible refine (targumref1_Blank.calls k3 a0 ((rd_T27 t272 x90_3).f0) ((rd_T27 t272 x90_3).f1) ((rd_T27 t272 x90_3).f2) t284 _ A79.out).mono ?_
                   rintro e w89 ⟨rfl, hb⟩
                   refine ⟨_, rfl, ?_⟩
                   have n0_ := AM (Kd.R_below (by (with_reducible repeat (first | apply Kd.R_alloc | apply Kd.R_drewN | apply Kd.R_drew)); exact HO_73.out) hb)
                   have n1_ := AM (Kd.R_below (by (with_reducible repeat (first | apply Kd.R_alloc | apply Kd.R_drewN | apply Kd.R_drew)); exact HO_88.out) hb)
                   have n2_ := AM (blk_below (g := gb254) (o := .cells #[.int .i64 a3_0, .int .i64 a3_1, .int .i64 a3_2] 27 (0, 0)) (by (with_reducible repeat (first | refine vN ?_ _ | refine vD ?_ | refine vA ?_ _)); exact BK254.out) hb)
                   have n3_ := AM (blk_below (g := gb280) (o := .cells #[.int .i64 ((rd_T27 t272 x90_3).f0), .int .i64 ((rd_T27 t272 x90_3).f1), .int .i64 ((rd_T27 t272 x90_3).f2)] 27 (0, 0)) (by (with_reducible repeat (first | refine vN ?_ _ | refine vD ?_ | refine vA ?_ _)); exact BK280.out) hb)
                   have n4_ := AM (below_step (by repeat (first | (with_reducible first | exact HB.out | apply wA | apply wN | apply wD | refine wS ?_ GE254.out | refine wS ?_ GE280.out) | exact HB.out)) hb)
                   clear HO_73
                   clear HO_88
                   clear BK254
                   clear BK280
                   clear HB
                   have HO_73 := n0_
                   have HO_88 := n1_
                   have BK254 := n2_
                   have BK280 := n3_
                   have HB := n4_
                   clear n0_ n1_ n2_ n3_ n4_
                   (try clear hb)
                   (try clear hb2)
                   (try clear hk)
                   (try clear hi)
                   refine hK.out _ _ ⟨(blk_cell BK280.out 0).trans rfl, (blk_cell BK280.out 1).trans rfl, (blk_cell BK280.out 2).trans rfl⟩ (fun hHeld => ?_)
                   clear hK K
                   refine norm_ (a' := ?_) ?_ ?_
                   rotate_left
                   ·show Act.put _ (some 107) _ = _
                    simp only [Act.put, qI, qz, qs, qi, qj]
                    rfl
                   refine P1 ?_ 14 108 mk_80 rfl rfl HT_.out (by kernel_rfl) (fun _ _ _ => id) (.inl ⟨by rfl, ?_⟩) ?_ ?_ ?_; rotate_left; (intro w'; go_simp; with_reducible rfl); rotate_left; (simp only [pa, qz, qs, qi, qj]; rfl)
                   refine P1 ?_ 15 109 mk_81 rfl rfl HT_.out (by kernel_rfl) (fun _ _ _ => id) (.inl ⟨by rfl, ?_⟩) ?_ ?_ ?_; rotate_left; (intro w'; go_simp; with_reducible rfl); rotate_left; (simp only [pa, qz, qs, qi, qj]; rfl)
                   refine P1 ?_ 16 110 mk_82 rfl rfl HT_.out (by kernel_rfl) (fun _ _ _ => id) (.inl ⟨by rfl, ?_⟩) ?_ ?_ ?_; rotate_left; (intro w'; go_simp; with_reducible rfl); rotate_left; (simp only [pa, qz, qs, qi, qj]; rfl)
                   refine P1 undef 17 111 mk_83 rfl rfl HT_.out (by kernel_rfl) (fun _ _ _ => id) (.inr ⟨by rfl, rfl⟩) ?_ ?_ ?_; rotate_left; (simp only [pa, qz, qs, qi, qj]; rfl)
                   refine P1 undef 18 112 mk_84 rfl rfl HT_.out (by kernel_rfl) (fun _ _ _ => id) (.inr ⟨by rfl, rfl⟩) ?_ ?_ ?_; rotate_left; (simp only [pa, qz, qs, qi, qj]; rfl)
                   refine P1 undef 19 113 mk_85 rfl rfl HT_.out (by kernel_rfl) (fun _ _ _ => id) (.inr ⟨by rfl, rfl⟩) ?_ ?_ ?_; rotate_left; (simp only [pa, qz, qs, qi, qj]; rfl)
                   refine P1 undef 20 114 mk_86 rfl rfl HT_.out (by kernel_rfl) (fun _ _ _ => id) (.inr ⟨by rfl, rfl⟩) ?_ ?_ ?_; rotate_left; (simp only [pa, qz, qs, qi, qj]; rfl)
                   refine P1 undef 21 115 mk_87 rfl rfl HT_.out (by kernel_rfl) (fun _ _ _ => id) (.inr ⟨by rfl, rfl⟩) ?_ ?_ ?_; rotate_left; (simp only [pa, qz, qs, qi, qj]; rfl)
                   refine P1 undef 22 116 mk_88 rfl rfl HT_.out (by kernel_rfl) (fun _ _ _ => id) (.inr ⟨by rfl, rfl⟩) ?_ ?_ ?_; rotate_left; (simp only [pa, qz, qs, qi, qj]; rfl)
                   refine P1 undef 23 117 mk_89 rfl rfl HT_.out (by kernel_rfl) (fun _ _ _ => id) (.inr ⟨by rfl, rfl⟩) ?_ ?_ ?_; rotate_left; (simp only [pa, qz, qs, qi, qj]; rfl)
                   refine P1 ?_ 24 118 mk_90 rfl rfl HT_.out (by kernel_rfl) (fun _ _ _ => id) (.inl ⟨by rfl, ?_⟩) ?_ ?_ ?_; rotate_left; (intro w'; go_simp; with_reducible rfl); rotate_left; (simp only [pa, qz, qs, qi, qj]; rfl)
                   refine done_ (done_of HT_.out (by kernel_rfl)) ?_
                   try go_wp2
                   go_ret
                   exact ⟨by first | rfl | (simp [errW_none, errW_some] <;> rfl) | (simp [*, errW_none, errW_some] <;> rfl), by repeat (first | (with_reducible first | exact HB.out | apply wA | apply wN | apply wD | refine wS ?_ GE254.out | refine wS ?_ GE280.out) | exact HB.out)⟩
                  ·rw [if_neg c80] at H
                   have c80b0 : (t283 != t284) = false := by simpa using c80
                   (try (have c80b1 : decide (t283 = t284) = true := by simpa using c80))
                   (try (have c80b2 : (t283 == t284) = true := by simpa using c80))
                   clear c80
                   replace H := Option.bind_eq_some_iff.mp H
                   obtain ⟨t285, A900, H⟩ := H
                   replace H : ((targumref1_Marker.f k3 a0 ((rd_T27 t272 x90_3).f0) ((rd_T27 t272 x90_3).f1) ((rd_T27 t272 x90_3).f2)).bind fun t286 => (if t285 = t286 then (targumlaw2_BrkTells.l1 k3 a0 y268 (y268.length : Int) x75_2 t272 (t272.length : Int) (wrap64 (x90_3 + 1))) else (some false))) = some r := H
                   have A90 := AM A900
                   clear A900
                   replace H := Option.bind_eq_some_iff.mp H
                   obtain ⟨t286, A910, H⟩ := H
                   replace H : (if t285 = t286 then (targumlaw2_BrkTells.l1 k3 a0 y268 (y268.length : Int) x75_2 t272 (t272.length : Int) (wrap64 (x90_3 + 1))) else (some false)) = some r := H
                   have A91 := AM A910
                   clear A910
                   by_cases c92 : t285 = t286
                   ·rw [if_pos c92] at H
                    have c92b0 : (t285 == t286) = true := beq_iff_eq.mpr c92
                    have c92b1 : (t285 != t286) = false := bne_eq_false_iff_eq.mpr c92
                    clear c92
                    have H' := AM H
                    clear H
                    have p279 : 0 ≤ (x90_3 : Int) := of_decide_eq_true (by first | (with_reducible assumption) | assumption)
                    have q279 : x90_3 < (t272.length : Int) := of_decide_eq_true (by first | (with_reducible assumption) | assumption)
                    obtain ⟨ad279, e279, hx279_0, hx279_1, hx279_2⟩ := at_T27 (Kd.R_reads' HO_88.out).2.2 x90_3 p279 q279
                    cases e279
                    replace p279 := eq_true p279
                    replace q279 := eq_true q279
                    try go_wp2_with (first | ((with_reducible refine gate_dst (N := 13) rfl ?_); refine box_event ?hg (N := 13) ?hd (cs := #[.int .i64 0, .int .i64 0, .int .i64 0]) (t := 27) ?hr ?_; (case hd => rfl); (case hg => rfl); (case hr => first | (go_simp; done) | (go_simp; rfl)); intro gb280 hg w93 hbox hb; have n0_ := AM (Kd.R_below (by (with_reducible repeat (first | apply Kd.R_alloc | apply Kd.R_drewN | apply Kd.R_drew)); exact HO_73.out) hb); have n1_ := AM (Kd.R_below (Kd.R_elderB (by (with_reducible repeat (first | apply Kd.R_alloc | apply Kd.R_drewN | apply Kd.R_drew)); exact HO_88.out) gb280 (Nat.le_of_eq hg.symm)) hb); have n2_ := AM (blk_below (g := gb254) (o := .cells #[.int .i64 a3_0, .int .i64 a3_1, .int .i64 a3_2] 27 (0, 0)) (by (with_reducible repeat (first | refine vN ?_ _ | refine vD ?_ | refine vA ?_ _)); exact BK254.out) hb); have n3_ := AM (below_step (by repeat (first | (with_reducible first | exact HB.out | apply wA | apply wN | apply wD | refine wS ?_ GE254.out) | exact HB.out)) hb); have n4_ := AM (hbox); have n5_ := AM ((by rw [hg]; exact (below_size (by repeat (first | (with_reducible first | exact HB.out | apply wA | apply wN | apply wD | refine wS ?_ GE254.out) | exact HB.out))) : w.heap.size ≤ gb280)); have n6_ := AM ((by rw [hg]; exact (below_size (by repeat (first | (with_reducible first | exact HB.out | apply wA | apply wN | apply wD | refine wS ?_ GE254.out) | exact HB.out))) : w.heap.size ≤ gb280)); have n7_ := AM ((by rw [hg]; exact Nat.ne_of_lt (blk_lt (g := gb254) (o := .cells #[.int .i64 a3_0, .int .i64 a3_1, .int .i64 a3_2] 27 (0, 0)) (by (with_reducible repeat (first | refine vN ?_ _ | refine vD ?_ | refine vA ?_ _)); exact BK254.out)) : gb254 ≠ gb280)); have n8_ := AM ((by rw [hg]; exact Nat.ne_of_gt (blk_lt (g := gb254) (o := .cells #[.int .i64 a3_0, .int .i64 a3_1, .int .i64 a3_2] 27 (0, 0)) (by (with_reducible repeat (first | refine vN ?_ _ | refine vD ?_ | refine vA ?_ _)); exact BK254.out)) : gb280 ≠ gb254)); clear HO_73; clear HO_88; clear BK254; clear HB; have HO_73 := n0_; have HO_88 := n1_; have BK254 := n2_; have HB := n3_; have BK280 := n4_; have GW280 := n5_; have GE280 := n6_; have NB254_280 := n7_; have NB280_254 := n8_; clear n0_ n1_ n2_ n3_ n4_ n5_ n6_ n7_ n8_; clear hb hbox hg; have hnb94 := NB280_254.out; have hnc94 := NB254_280.out; have hcz95_0 : w93.cell? ⟨gb280, 0, none⟩ = some (.int .i64 0) := (blk_cell BK280.out 0).trans rfl; have hcz95_1 : w93.cell? ⟨gb280, 1, none⟩ = some (.int .i64 0) := (blk_cell BK280.out 1).trans rfl; have hcz95_2 : w93.cell? ⟨gb280, 2, none⟩ = some (.int .i64 0) := (blk_cell BK280.out 2).trans rfl; have hfz95_0 := blk_frozen BK280.out 0; have hfz95_1 := blk_frozen BK280.out 1; have hfz95_2 := blk_frozen BK280.out 2))
                    have n0_ : Aside0 (Kd.R (Kd.int .i64) 3 (((w93.setCell ⟨gb280, 0, none⟩ (.int .i64 ((rd_T27 t272 x90_3).f0))).setCell ⟨gb280, 1, none⟩ (.int .i64 ((rd_T27 t272 x90_3).f1))).setCell ⟨gb280, 2, none⟩ (.int .i64 ((rd_T27 t272 x90_3).f2))) w.heap.size (fun _ => True) (.slice (some ad271) y268.length co60) y268) := ⟨by (with_reducible repeat (first | apply Kd.R_alloc | apply Kd.R_drewN | apply Kd.R_drew)); exact Kd.R_mono (Kd.R_far (p := ⟨gb280, 2, none⟩) (Kd.R_far (p := ⟨gb280, 1, none⟩) (Kd.R_far (p := ⟨gb280, 0, none⟩) (Kd.R_types HO_73.out BK280.out (by decide)) (fun _ hk => hk.2) (.int .i64 ((rd_T27 t272 x90_3).f0))) (fun _ hk => hk.2) (.int .i64 ((rd_T27 t272 x90_3).f1))) (fun _ hk => hk.2) (.int .i64 ((rd_T27 t272 x90_3).f2))) (fun _ hk => trivial)⟩
                    have n1_ : Aside0 (Kd.R k27 27 (((w93.setCell ⟨gb280, 0, none⟩ (.int .i64 ((rd_T27 t272 x90_3).f0))).setCell ⟨gb280, 1, none⟩ (.int .i64 ((rd_T27 t272 x90_3).f1))).setCell ⟨gb280, 2, none⟩ (.int .i64 ((rd_T27 t272 x90_3).f2))) w.heap.size (fun k_ => k_ ≠ gb254 ∧ k_ ≠ gb280) (.slice (some ad279) t272.length co70) t272) := ⟨by (with_reducible repeat (first | apply Kd.R_alloc | apply Kd.R_drewN | apply Kd.R_drew)); exact Kd.R_mono (Kd.R_far (p := ⟨gb280, 2, none⟩) (Kd.R_far (p := ⟨gb280, 1, none⟩) (Kd.R_far (p := ⟨gb280, 0, none⟩) (Kd.R_mono HO_88.out (fun k_ hk => (⟨hk, hk.2⟩ : _ ∧ k_ ≠ gb280))) (fun _ hk => hk.2) (.int .i64 ((rd_T27 t272 x90_3).f0))) (fun _ hk => hk.2) (.int .i64 ((rd_T27 t272 x90_3).f1))) (fun _ hk => hk.2) (.int .i64 ((rd_T27 t272 x90_3).f2))) (fun _ hk => ⟨hk.1.1, hk.1.2⟩)⟩
                    have n2_ : Aside0 ((((w93.setCell ⟨gb280, 0, none⟩ (.int .i64 ((rd_T27 t272 x90_3).f0))).setCell ⟨gb280, 1, none⟩ (.int .i64 ((rd_T27 t272 x90_3).f1))).setCell ⟨gb280, 2, none⟩ (.int .i64 ((rd_T27 t272 x90_3).f2))).heap[gb254]? = some (.cells #[.int .i64 a3_0, .int .i64 a3_1, .int .i64 a3_2] 27 (0, 0))) := ⟨by (with_reducible repeat (first | refine vN ?_ _ | refine vD ?_ | refine vA ?_ _)); refine blk_far ?_ NB254_280.out _; (with_reducible repeat (first | refine vN ?_ _ | refine vD ?_ | refine vA ?_ _)); refine blk_far ?_ NB254_280.out _; (with_reducible repeat (first | refine vN ?_ _ | refine vD ?_ | refine vA ?_ _)); refine blk_far ?_ NB254_280.out _; (with_reducible repeat (first | refine vN ?_ _ | refine vD ?_ | refine vA ?_ _)); exact BK254.out⟩
                    have n3_ : Aside0 ((((w93.setCell ⟨gb280, 0, none⟩ (.int .i64 ((rd_T27 t272 x90_3).f0))).setCell ⟨gb280, 1, none⟩ (.int .i64 ((rd_T27 t272 x90_3).f1))).setCell ⟨gb280, 2, none⟩ (.int .i64 ((rd_T27 t272 x90_3).f2))).heap[gb280]? = some (.cells #[.int .i64 ((rd_T27 t272 x90_3).f0), .int .i64 ((rd_T27 t272 x90_3).f1), .int .i64 ((rd_T27 t272 x90_3).f2)] 27 (0, 0))) := ⟨by (with_reducible repeat (first | refine vN ?_ _ | refine vD ?_ | refine vA ?_ _)); refine blk_put (cs := #[.int .i64 ((rd_T27 t272 x90_3).f0), .int .i64 ((rd_T27 t272 x90_3).f1), .int .i64 0]) ?_ 2 _ rfl; (with_reducible repeat (first | refine vN ?_ _ | refine vD ?_ | refine vA ?_ _)); refine blk_put (cs := #[.int .i64 ((rd_T27 t272 x90_3).f0), .int .i64 0, .int .i64 0]) ?_ 1 _ rfl; (with_reducible repeat (first | refine vN ?_ _ | refine vD ?_ | refine vA ?_ _)); refine blk_put (cs := #[.int .i64 0, .int .i64 0, .int .i64 0]) ?_ 0 _ rfl; (with_reducible repeat (first | refine vN ?_ _ | refine vD ?_ | refine vA ?_ _)); exact BK280.out⟩
                    have n4_ : Aside0 (Below w.heap.size w (((w93.setCell ⟨gb280, 0, none⟩ (.int .i64 ((rd_T27 t272 x90_3).f0))).setCell ⟨gb280, 1, none⟩ (.int .i64 ((rd_T27 t272 x90_3).f1))).setCell ⟨gb280, 2, none⟩ (.int .i64 ((rd_T27 t272 x90_3).f2)))) := ⟨by repeat (first | (with_reducible first | exact HB.out | apply wA | apply wN | apply wD | refine wS ?_ GE254.out | refine wS ?_ GE280.out) | exact HB.out)⟩
                    (try clear HO_73)
                    (try clear HO_88)
                    (try clear BK254)
                    (try clear BK280)
                    (try clear HB)
                    generalize (((w93.setCell ⟨gb280, 0, none⟩ (.int .i64 ((rd_T27 t272 x90_3).f0))).setCell ⟨gb280, 1, none⟩ (.int .i64 ((rd_T27 t272 x90_3).f1))).setCell ⟨gb280, 2, none⟩ (.int .i64 ((rd_T27 t272 x90_3).f2))) = w96 at n0_ n1_ n2_ n3_ n4_ ⊢
                    have HO_73 := n0_
                    have HO_88 := n1_
                    have BK254 := n2_
                    have BK280 := n3_
                    have HB := n4_
                    clear n0_ n1_ n2_ n3_ n4_
                    have n0_ := AM (Kd.R_drew HO_73.out)
                    have n1_ := AM (Kd.R_drew HO_88.out)
                    have n2_ := AM (vD BK254.out)
                    have n3_ := AM (vD BK280.out)
                    have n4_ := AM (wD HB.out)
                    clear HO_73
                    clear HO_88
                    clear BK254
                    clear BK280
                    clear HB
                    have HO_73 := n0_
                    have HO_88 := n1_
                    have BK254 := n2_
                    have BK280 := n3_
                    have HB := n4_
                    clear n0_ n1_ n2_ n3_ n4_
                    refine start_ (n := 25) (S := fun w' => w'.cell? ⟨gb280, 0, none⟩ = some (.int .i64 ((rd_T27 t272 x90_3).f0)) ∧ w'.cell? ⟨gb280, 1, none⟩ = some (.int .i64 ((rd_T27 t272 x90_3).f1)) ∧ w'.cell? ⟨gb280, 2, none⟩ = some (.int .i64 ((rd_T27 t272 x90_3).f2))) (ds := []) mk_65 (by kernel_rfl) rfl rfl ⟨(blk_cell BK280.out 0).trans rfl, (blk_cell BK280.out 1).trans rfl, (blk_cell BK280.out 2).trans rfl⟩ (fun hHeld => ?_); refine with_tabW targumlaw2_BrkTells.tab16 targumlaw2_BrkTells.bits16 (fun HT_ HW_ => ?_)
                    generalize w96.drew = w97 at HO_73 HO_88 BK254 BK280 HB hHeld ⊢
                    refine P1 ?_ 0 94 mk_66 rfl rfl HT_.out (by kernel_rfl) (fun _ _ _ => id) (.inl ⟨by rfl, ?_⟩) ?_ ?_ ?_; rotate_left; (intro w'; go_simp; with_reducible rfl); rotate_left; (simp only [pa, qz, qs, qi, qj]; rfl)
                    refine P1 ?_ 3 97 mk_67 rfl rfl HT_.out (by kernel_rfl) (fun _ _ _ => id) (.inl ⟨by rfl, ?_⟩) ?_ ?_ ?_; rotate_left; (intro w'; go_simp; with_reducible rfl); rotate_left; (simp only [pa, qz, qs, qi, qj]; rfl)
                    refine T1 ?_ 1 95 mk_68 rfl rfl HT_.out HW_.out (by kernel_rfl) (fun _ _ _ => id) (.inl ⟨by rfl, ?_⟩) hHeld ?_ ?_ ?_; rotate_left; (rintro w' ⟨s0, s1, s2⟩; go_simp; with_reducible rfl); rotate_left; (simp only [pa, qz, qs, qi, qj]; rfl)
                    refine T1 ?_ 4 98 mk_69 rfl rfl HT_.out HW_.out (by kernel_rfl) (fun _ _ _ => id) (.inl ⟨by rfl, ?_⟩) hHeld ?_ ?_ ?_; rotate_left; (rintro w' ⟨s0, s1, s2⟩; go_simp; with_reducible rfl); rotate_left; (simp only [pa, qz, qs, qi, qj]; rfl)
                    refine one_ (i := 2) (N := some 96) mk_70 rfl rfl (one_of HT_.out (by kernel_rfl)) (by decide) (fun K hK => ?_)
                    refine goes_ Tryd.func20 (by kernel_rfl) rfl #[.string a0, .agg #[.int .i64 ((rd_T27 t272 x90_3).f0), .int .i64 ((rd_T27 t272 x90_3).f1), .int .i64 ((rd_T27 t272 x90_3).f2)]] (by rfl) rfl rfl (by (try simp only [qT, qC, qN]); first | done | rfl | (simp only [qD, qU]; rfl)) ?_
                    with_reducible refine (brk_Indent.calls a0 ((rd_T27 t272 x90_3).f0) ((rd_T27 t272 x90_3).f1) ((rd_T27 t272 x90_3).f2) t281 _ A75.out).mono ?_
                    rintro e w98 ⟨rfl, hb⟩
                    refine ⟨_, rfl, ?_⟩
                    have n0_ := AM (Kd.R_below (by (with_reducible repeat (first | apply Kd.R_alloc | apply Kd.R_drewN | apply Kd.R_drew)); exact HO_73.out) hb)
                    have n1_ := AM (Kd.R_below (by (with_reducible repeat (first | apply Kd.R_alloc | apply Kd.R_drewN | apply Kd.R_drew)); exact HO_88.out) hb)
                    have n2_ := AM (blk_below (g := gb254) (o := .cells #[.int .i64 a3_0, .int .i64 a3_1, .int .i64 a3_2] 27 (0, 0)) (by (with_reducible repeat (first | refine vN ?_ _ | refine vD ?_ | refine vA ?_ _)); exact BK254.out) hb)
                    have n3_ := AM (blk_below (g := gb280) (o := .cells #[.int .i64 ((rd_T27 t272 x90_3).f0), .int .i64 ((rd_T27 t272 x90_3).f1), .int .i64 ((rd_T27 t272 x90_3).f2)] 27 (0, 0)) (by (with_reducible repeat (first | refine vN ?_ _ | refine vD ?_ | refine vA ?_ _)); exact BK280.out) hb)
                    have n4_ := AM (below_step (by repeat (first | (with_reducible first | exact HB.out | apply wA | apply wN | apply wD | refine wS ?_ GE254.out | refine wS ?_ GE280.out) | exact HB.out)) hb)
                    clear HO_73
                    clear HO_88
                    clear BK254
                    clear BK280
                    clear HB
                    have HO_73 := n0_
                    have HO_88 := n1_
                    have BK254 := n2_
                    have BK280 := n3_
                    have HB := n4_
                    clear n0_ n1_ n2_ n3_ n4_
                    (try clear hb)
                    (try clear hb2)
                    (try clear hk)
                    (try clear hi)
                    refine hK.out _ _ ⟨(blk_cell BK280.out 0).trans rfl, (blk_cell BK280.out 1).trans rfl, (blk_cell BK280.out 2).trans rfl⟩ (fun hHeld => ?_)
                    clear hK K
                    refine norm_ (a' := ?_) ?_ ?_
                    rotate_left
                    ·show Act.put _ (some 96) _ = _
                     simp only [Act.put, qI, qz, qs, qi, qj]
                     rfl
                    refine one_ (i := 5) (N := some 99) mk_71 rfl rfl (one_of HT_.out (by kernel_rfl)) (by decide) (fun K hK => ?_)
                    refine goes_ Tryd.func21 (by kernel_rfl) rfl #[.string a0, .agg #[.int .i64 ((rd_T27 t272 x90_3).f0), .int .i64 ((rd_T27 t272 x90_3).f1), .int .i64 ((rd_T27 t272 x90_3).f2)]] (by rfl) rfl rfl (by (try simp only [qT, qC, qN]); first | done | rfl | (simp only [qD, qU]; rfl)) ?_
                    with_reducible refine (targumref1_Indent.calls k3 a0 ((rd_T27 t272 x90_3).f0) ((rd_T27 t272 x90_3).f1) ((rd_T27 t272 x90_3).f2) t282 _ A76.out).mono ?_
                    rintro e w99 ⟨rfl, hb⟩
                    refine ⟨_, rfl, ?_⟩
                    have n0_ := AM (Kd.R_below (by (with_reducible repeat (first | apply Kd.R_alloc | apply Kd.R_drewN | apply Kd.R_drew)); exact HO_73.out) hb)
                    have n1_ := AM (Kd.R_below (by (with_reducible repeat (first | apply Kd.R_alloc | apply Kd.R_drewN | apply Kd.R_drew)); exact HO_88.out) hb)
                    have n2_ := AM (blk_below (g := gb254) (o := .cells #[.int .i64 a3_0, .int .i64 a3_1, .int .i64 a3_2] 27 (0, 0)) (by (with_reducible repeat (first | refine vN ?_ _ | refine vD ?_ | refine vA ?_ _)); exact BK254.out) hb)
                    have n3_ := AM (blk_below (g := gb280) (o := .cells #[.int .i64 ((rd_T27 t272 x90_3).f0), .int .i64 ((rd_T27 t272 x90_3).f1), .int .i64 ((rd_T27 t272 x90_3).f2)] 27 (0, 0)) (by (with_reducible repeat (first | refine vN ?_ _ | refine vD ?_ | refine vA ?_ _)); exact BK280.out) hb)
                    have n4_ := AM (below_step (by repeat (first | (with_reducible first | exact HB.out | apply wA | apply wN | apply wD | refine wS ?_ GE254.out | refine wS ?_ GE280.out) | exact HB.out)) hb)
                    clear HO_73
                    clear HO_88
                    clear BK254
                    clear BK280
                    clear HB
                    have HO_73 := n0_
                    have HO_88 := n1_
                    have BK254 := n2_
                    have BK280 := n3_
                    have HB := n4_
                    clear n0_ n1_ n2_ n3_ n4_
                    (try clear hb)
                    (try clear hb2)
                    (try clear hk)
                    (try clear hi)
                    refine hK.out _ _ ⟨(blk_cell BK280.out 0).trans rfl, (blk_cell BK280.out 1).trans rfl, (blk_cell BK280.out 2).trans rfl⟩ (fun hHeld => ?_)
                    clear hK K
                    refine norm_ (a' := ?_) ?_ ?_
                    rotate_left
                    ·show Act.put _ (some 99) _ = _
                     simp only [Act.put, qI, qz, qs, qi, qj]
                     rfl
                    refine P1 ?_ 6 100 mk_72 rfl rfl HT_.out (by kernel_rfl) (fun _ _ _ => id) (.inl ⟨by rfl, ?_⟩) ?_ ?_ ?_; rotate_left; (intro w'; go_simp; with_reducible rfl); rotate_left; (simp only [pa, qz, qs, qi, qj]; rfl)
                    refine P1 ?_ 7 101 mk_73 rfl rfl HT_.out (by kernel_rfl) (fun _ _ _ => id) (.inl ⟨by rfl, ?_⟩) ?_ ?_ ?_; rotate_left; (intro w'; go_simp; with_reducible rfl); rotate_left; (simp only [pa, qz, qs, qi, qj]; rfl)
                    refine P1 ?_ 8 102 mk_74 rfl rfl HT_.out (by kernel_rfl) (fun _ _ _ => id) (.inl ⟨by rfl, ?_⟩) ?_ ?_ ?_; rotate_left; (intro w'; go_simp; with_reducible rfl); rotate_left; (simp only [pa, qz, qs, qi, qj]; rfl)
                    refine P1 ?_ 11 105 mk_75 rfl rfl HT_.out (by kernel_rfl) (fun _ _ _ => id) (.inl ⟨by rfl, ?_⟩) ?_ ?_ ?_; rotate_left; (intro w'; go_simp; with_reducible rfl); rotate_left; (simp only [pa, qz, qs, qi, qj]; rfl)
                    refine T1 ?_ 9 103 mk_76 rfl rfl HT_.out HW_.out (by kernel_rfl) (fun _ _ _ => id) (.inl ⟨by rfl, ?_⟩) hHeld ?_ ?_ ?_; rotate_left; (rintro w' ⟨s0, s1, s2⟩; go_simp; with_reducible rfl); rotate_left; (simp only [pa, qz, qs, qi, qj]; rfl)
                    refine T1 ?_ 12 106 mk_77 rfl rfl HT_.out HW_.out (by kernel_rfl) (fun _ _ _ => id) (.inl ⟨by rfl, ?_⟩) hHeld ?_ ?_ ?_; rotate_left; (rintro w' ⟨s0, s1, s2⟩; go_simp; with_reducible rfl); rotate_left; (simp only [pa, qz, qs, qi, qj]; rfl)
                    refine one_ (i := 10) (N := some 104) mk_78 rfl rfl (one_of HT_.out (by kernel_rfl)) (by decide) (fun K hK => ?_)
                    refine goes_ Tryd.func22 (by kernel_rfl) rfl #[.string a0, .agg #[.int .i64 ((rd_T27 t272 x90_3).f0), .int .i64 ((rd_T27 t272 x90_3).f1), .int .i64 ((rd_T27 t272 x90_3).f2)]] (by rfl) rfl rfl (by (try simp only [qT, qC, qN]); first | done | rfl | (simp only [qD, qU]; rfl)) ?_
                    with_reducible refine (brk_Blank.calls a0 ((rd_T27 t272 x90_3).f0) ((rd_T27 t272 x90_3).f1) ((rd_T27 t272 x90_3).f2) t283 _ A78.out).mono ?_
                    rintro e w100 ⟨rfl, hb⟩
                    refine ⟨_, rfl, ?_⟩
                    have n0_ := AM (Kd.R_below (by (with_reducible repeat (first | apply Kd.R_alloc | apply Kd.R_drewN | apply Kd.R_drew)); exact HO_73.out) hb)
                    have n1_ := AM (Kd.R_below (by (with_reducible repeat (first | apply Kd.R_alloc | apply Kd.R_drewN | apply Kd.R_drew)); exact HO_88.out) hb)
                    have n2_ := AM (blk_below (g := gb254) (o := .cells #[.int .i64 a3_0, .int .i64 a3_1, .int .i64 a3_2] 27 (0, 0)) (by (with_reducible repeat (first | refine vN ?_ _ | refine vD ?_ | refine vA ?_ _)); exact BK254.out) hb)
                    have n3_ := AM (blk_below (g := gb280) (o := .cells #[.int .i64 ((rd_T27 t272 x90_3).f0), .int .i64 ((rd_T27 t272 x90_3).f1), .int .i64 ((rd_T27 t272 x90_3).f2)] 27 (0, 0)) (by (with_reducible repeat (first | refine vN ?_ _ | refine vD ?_ | refine vA ?_ _)); exact BK280.out) hb)
                    have n4_ := AM (below_step (by repeat (first | (with_reducible first | exact HB.out | apply wA | apply wN | apply wD | refine wS ?_ GE254.out | refine wS ?_ GE280.out) | exact HB.out)) hb)
                    clear HO_73
                    clear HO_88
                    clear BK254
                    clear BK280
                    clear HB
                    have HO_73 := n0_
                    have HO_88 := n1_
                    have BK254 := n2_
                    have BK280 := n3_
                    have HB := n4_
                    clear n0_ n1_ n2_ n3_ n4_
                    (try clear hb)
                    (try clear hb2)
                    (try clear hk)
                    (try clear hi)
                    refine hK.out _ _ ⟨(blk_cell BK280.out 0).trans rfl, (blk_cell BK280.out 1).trans rfl, (blk_cell BK280.out 2).trans rfl⟩ (fun hHeld => ?_)
                    clear hK K
                    refine norm_ (a' := ?_) ?_ ?_
                    rotate_left
                    ·show Act.put _ (some 104) _ = _
                     simp only [Act.put, qI, qz, qs, qi, qj]
                     rfl
                    refine one_ (i := 13) (N := some 107) mk_79 rfl rfl (one_of HT_.out (by kernel_rfl)) (by decide) (fun K hK => ?_)
                    refine goes_ Tryd.func23 (by kernel_rfl) rfl #[.string a0, .agg #[.int .i64 ((rd_T27 t272 x90_3).f0), .int .i64 ((rd_T27 t272 x90_3).f1), .int .i64 ((rd_T27 t272 x90_3).f2)]] (by rfl) rfl rfl (by (try simp only [qT, qC, qN]); first | done | rfl | (simp only [qD, qU]; rfl)) ?_
                    with_reducible refine (targumref1_Blank.calls k3 a0 ((rd_T27 t272 x90_3).f0) ((rd_T27 t272 x90_3).f1) ((rd_T27 t272 x90_3).f2) t284 _ A79.out).mono ?_
                    rintro e w101 ⟨rfl, hb⟩
                    refine ⟨_, rfl, ?_⟩
                    have n0_ := AM (Kd.R_below (by (with_reducible repeat (first | apply Kd.R_alloc | apply Kd.R_drewN | apply Kd.R_drew)); exact HO_73.out) hb)
                    have n1_ := AM (Kd.R_below (by (with_reducible repeat (first | apply Kd.R_alloc | apply Kd.R_drewN | apply Kd.R_drew)); exact HO_88.out) hb)
                    have n2_ := AM (blk_below (g := gb254) (o := .cells #[.int .i64 a3_0, .int .i64 a3_1, .int .i64 a3_2] 27 (0, 0)) (by (with_reducible repeat (first | refine vN ?_ _ | refine vD ?_ | refine vA ?_ _)); exact BK254.out) hb)
                    have n3_ := AM (blk_below (g := gb280) (o := .cells #[.int .i64 ((rd_T27 t272 x90_3).f0), .int .i64 ((rd_T27 t272 x90_3).f1), .int .i64 ((rd_T27 t272 x90_3).f2)] 27 (0, 0)) (by (with_reducible repeat (first | refine vN ?_ _ | refine vD ?_ | refine vA ?_ _)); exact BK280.out) hb)
                    have n4_ := AM (below_step (by repeat (first | (with_reducible first | exact HB.out | apply wA | apply wN | apply wD | refine wS ?_ GE254.out | refine wS ?_ GE280.out) | exact HB.out)) hb)
                    clear HO_73
                    clear HO_88
                    clear BK254
                    clear BK280
                    clear HB
                    have HO_73 := n0_
                    have HO_88 := n1_
                    have BK254 := n2_
                    have BK280 := n3_
                    have HB := n4_
                    clear n0_ n1_ n2_ n3_ n4_
                    (try clear hb)
                    (try clear hb2)
                    (try clear hk)
                    (try clear hi)
                    refine hK.out _ _ ⟨(blk_cell BK280.out 0).trans rfl, (blk_cell BK280.out 1).trans rfl, (blk_cell BK280.out 2).trans rfl⟩ (fun hHeld => ?_)
                    clear hK K
                    refine norm_ (a' := ?_) ?_ ?_
                    rotate_left
                    ·show Act.put _ (some 107) _ = _
                     simp only [Act.put, qI, qz, qs, qi, qj]
                     rfl
                    refine P1 ?_ 14 108 mk_80 rfl rfl HT_.out (by kernel_rfl) (fun _ _ _ => id) (.inl ⟨by rfl, ?_⟩) ?_ ?_ ?_; rotate_left; (intro w'; go_simp; with_reducible rfl); rotate_left; (simp only [pa, qz, qs, qi, qj]; rfl)
                    refine P1 ?_ 15 109 mk_81 rfl rfl HT_.out (by kernel_rfl) (fun _ _ _ => id) (.inl ⟨by rfl, ?_⟩) ?_ ?_ ?_; rotate_left; (intro w'; go_simp; with_reducible rfl); rotate_left; (simp only [pa, qz, qs, qi, qj]; rfl)
                    refine P1 ?_ 16 110 mk_82 rfl rfl HT_.out (by kernel_rfl) (fun _ _ _ => id) (.inl ⟨by rfl, ?_⟩) ?_ ?_ ?_; rotate_left; (intro w'; go_simp; with_reducible rfl); rotate_left; (simp only [pa, qz, qs, qi, qj]; rfl)
                    refine P1 ?_ 17 111 mk_83 rfl rfl HT_.out (by kernel_rfl) (fun _ _ _ => id) (.inl ⟨by rfl, ?_⟩) ?_ ?_ ?_; rotate_left; (intro w'; go_simp; with_reducible rfl); rotate_left; (simp only [pa, qz, qs, qi, qj]; rfl)
                    refine P1 ?_ 20 114 mk_91 rfl rfl HT_.out (by kernel_rfl) (fun _ _ _ => id) (.inl ⟨by rfl, ?_⟩) ?_ ?_ ?_; rotate_left; (intro w'; go_simp; with_reducible rfl); rotate_left; (simp only [pa, qz, qs, qi, qj]; rfl)
                    refine T1 ?_ 18 112 mk_92 rfl rfl HT_.out HW_.out (by kernel_rfl) (fun _ _ _ => id) (.inl ⟨by rfl, ?_⟩) hHeld ?_ ?_ ?_; rotate_left; (rintro w' ⟨s0, s1, s2⟩; go_simp; with_reducible rfl); rotate_left; (simp only [pa, qz, qs, qi, qj]; rfl)
                    refine T1 ?_ 21 115 mk_93 rfl rfl HT_.out HW_.out (by kernel_rfl) (fun _ _ _ => id) (.inl ⟨by rfl, ?_⟩) hHeld ?_ ?_ ?_; rotate_left; (rintro w' ⟨s0, s1, s2⟩; go_simp; with_reducible rfl); rotate_left; (simp only [pa, qz, qs, qi, qj]; rfl)
                    refine one_ (i := 19) (N := some 113) mk_87 rfl rfl (one_of HT_.out (by kernel_rfl)) (by decide) (fun K hK => ?_)
                    refine goes_ Tryd.func24 (by kernel_rfl) rfl #[.string a0, .agg #[.int .i64 ((rd_T27 t272 x90_3).f0), .int .i64 ((rd_T27 t272 x90_3).f1), .int .i64 ((rd_T27 t272 x90_3).f2)]] (by rfl) rfl rfl (by (try simp only [qT, qC, qN]); first | done | rfl | (simp only [qD, qU]; rfl)) ?_
                    with_reducible refine (brk_Marker.calls k3 a0 ((rd_T27 t272 x90_3).f0) ((rd_T27 t272 x90_3).f1) ((rd_T27 t272 x90_3).f2) t285 _ A90.out).mono ?_
                    rintro e w102 ⟨rfl, hb⟩
                    refine ⟨_, rfl, ?_⟩
                    have n0_ := AM (Kd.R_below (by (with_reducible repeat (first | apply Kd.R_alloc | apply Kd.R_drewN | apply Kd.R_drew)); exact HO_73.out) hb)
                    have n1_ := AM (Kd.R_below (by (with_reducible repeat (first | apply Kd.R_alloc | apply Kd.R_drewN | apply Kd.R_drew)); exact HO_88.out) hb)
                    have n2_ := AM (blk_below (g := gb254) (o := .cells #[.int .i64 a3_0, .int .i64 a3_1, .int .i64 a3_2] 27 (0, 0)) (by (with_reducible repeat (first | refine vN ?_ _ | refine vD ?_ | refine vA ?_ _)); exact BK254.out) hb)
                    have n3_ := AM (blk_below (g := gb280) (o := .cells #[.int .i64 ((rd_T27 t272 x90_3).f0), .int .i64 ((rd_T27 t272 x90_3).f1), .int .i64 ((rd_T27 t272 x90_3).f2)] 27 (0, 0)) (by (with_reducible repeat (first | refine vN ?_ _ | refine vD ?_ | refine vA ?_ _)); exact BK280.out) hb)
                    have n4_ := AM (below_step (by repeat (first | (with_reducible first | exact HB.out | apply wA | apply wN | apply wD | refine wS ?_ GE254.out | refine wS ?_ GE280.out) | exact HB.out)) hb)
                    clear HO_73
                    clear HO_88
                    clear BK254
                    clear BK280
                    clear HB
                    have HO_73 := n0_
                    have HO_88 := n1_
                    have BK254 := n2_
                    have BK280 := n3_
                    have HB := n4_
                    clear n0_ n1_ n2_ n3_ n4_
                    (try clear hb)
                    (try clear hb2)
                    (try clear hk)
                    (try clear hi)
                    refine hK.out _ _ ⟨(blk_cell BK280.out 0).trans rfl, (blk_cell BK280.out 1).trans rfl, (blk_cell BK280.out 2).trans rfl⟩ (fun hHeld => ?_)
                    clear hK K
                    refine norm_ (a' := ?_) ?_ ?_
                    rotate_left
                    ·show Act.put _ (some 113) _ = _
                     simp only [Act.put, qI, qz, qs, qi, qj]
                     rfl
                    refine one_ (i := 22) (N := some 116) mk_88 rfl rfl (one_of HT_.out (by kernel_rfl)) (by decide) (fun K hK => ?_)
                    refine goes_ Tryd.func25 (by kernel_rfl) rfl #[.string a0, .agg #[.int .i64 ((rd_T27 t272 x90_3).f0), .int .i64 ((rd_T27 t272 x90_3).f1), .int .i64 ((rd_T27 t272 x90_3).f2)]] (by rfl) rfl rfl (by (try simp only [qT, qC, qN]); first | done | rfl | (simp only [qD, qU]; rfl)) ?_
                    with_reducible refine (targumref1_Marker.calls k3 a0 ((rd_T27 t272 x90_3).f0) ((rd_T27 t272 x90_3).f1) ((rd_T27 t272 x90_3).f2) t286 _ A91.out).mono ?_
                    rintro e w103 ⟨rfl, hb⟩
                    refine ⟨_, rfl, ?_⟩
                    have n0_ := AM (Kd.R_below (by (with_reducible repeat (first | apply Kd.R_alloc | apply Kd.R_drewN | apply Kd.R_drew)); exact HO_73.out) hb)
                    have n1_ := AM (Kd.R_below (by (with_reducible repeat (first | apply Kd.R_alloc | apply Kd.R_drewN | apply Kd.R_drew)); exact HO_88.out) hb)
                    have n2_ := AM (blk_below (g := gb254) (o := .cells #[.int .i64 a3_0, .int .i64 a3_1, .int .i64 a3_2] 27 (0, 0)) (by (with_reducible repeat (first | refine vN ?_ _ | refine vD ?_ | refine vA ?_ _)); exact BK254.out) hb)
                    have n3_ := AM (blk_below (g := gb280) (o := .cells #[.int .i64 ((rd_T27 t272 x90_3).f0), .int .i64 ((rd_T27 t272 x90_3).f1), .int .i64 ((rd_T27 t272 x90_3).f2)] 27 (0, 0)) (by (with_reducible repeat (first | refine vN ?_ _ | refine vD ?_ | refine vA ?_ _)); exact BK280.out) hb)
                    have n4_ := AM (below_step (by repeat (first | (with_reducible first | exact HB.out | apply wA | apply wN | apply wD | refine wS ?_ GE254.out | refine wS ?_ GE280.out) | exact HB.out)) hb)
                    clear HO_73
                    clear HO_88
                    clear BK254
                    clear BK280
                    clear HB
                    have HO_73 := n0_
                    have HO_88 := n1_
                    have BK254 := n2_
                    have BK280 := n3_
                    have HB := n4_
                    clear n0_ n1_ n2_ n3_ n4_
                    (try clear hb)
                    (try clear hb2)
                    (try clear hk)
                    (try clear hi)
                    refine hK.out _ _ ⟨(blk_cell BK280.out 0).trans rfl, (blk_cell BK280.out 1).trans rfl, (blk_cell BK280.out 2).trans rfl⟩ (fun hHeld => ?_)
                    clear hK K
                    refine norm_ (a' := ?_) ?_ ?_
                    rotate_left
                    ·show Act.put _ (some 116) _ = _
                     simp only [Act.put, qI, qz, qs, qi, qj]
                     rfl
                    refine P1 ?_ 23 117 mk_89 rfl rfl HT_.out (by kernel_rfl) (fun _ _ _ => id) (.inl ⟨by rfl, ?_⟩) ?_ ?_ ?_; rotate_left; (intro w'; go_simp; with_reducible rfl); rotate_left; (simp only [pa, qz, qs, qi, qj]; rfl)
                    refine P1 ?_ 24 118 mk_90 rfl rfl HT_.out (by kernel_rfl) (fun _ _ _ => id) (.inl ⟨by rfl, ?_⟩) ?_ ?_ ?_; rotate_left; (intro w'; go_simp; with_reducible rfl); rotate_left; (simp only [pa, qz, qs, qi, qj]; rfl)
                    refine done_ (done_of HT_.out (by kernel_rfl)) ?_
                    try go_wp2
                    go_roundg k3
                    case measure => have := HJ9.out; have := HK2.out; have := HK3.out; omega
                    case rel => exact ⟨(wrap64 (x90_3 + 1)), (by first | rfl | (simp; done) | (simp [*]; done) | (simp [wrap64]; done)), H', ⟨by have := HJ9.out; have := HK2.out; have := HK3.out; omega⟩, ⟨by (with_reducible repeat (first | apply Kd.R_alloc | apply Kd.R_drewN | apply Kd.R_drew)); exact HO_73.out⟩, ⟨by (with_reducible repeat (first | apply Kd.R_alloc | apply Kd.R_drewN | apply Kd.R_drew)); exact Kd.R_mono HO_88.out (fun _ hk => hk.1)⟩, ⟨by (with_reducible repeat (first | refine vN ?_ _ | refine vD ?_ | refine vA ?_ _)); exact BK254.out⟩, ⟨by repeat (first | (with_reducible first | exact HB.out | apply wA | apply wN | apply wD | refine wS ?_ GE254.out | refine wS ?_ GE280.out) | exact HB.out)⟩⟩
                   ·rw [if_neg c92] at H
                    have c92b0 : (t285 == t286) = false := beq_eq_false_iff_ne.mpr c92
                    have c92b1 : (t285 != t286) = true := bne_iff_ne.mpr c92
                    obtain rfl := Option.some.inj H
                    have p279 : 0 ≤ (x90_3 : Int) := of_decide_eq_true (by first | (with_reducible assumption) | assumption)
                    have q279 : x90_3 < (t272.length : Int) := of_decide_eq_true (by first | (with_reducible assumption) | assumption)
                    obtain ⟨ad279, e279, hx279_0, hx279_1, hx279_2⟩ := at_T27 (Kd.R_reads' HO_88.out).2.2 x90_3 p279 q279
                    cases e279
                    replace p279 := eq_true p279
                    replace q279 := eq_true q279
                    try go_wp2_with (first | ((with_reducible refine gate_dst (N := 13) rfl ?_); refine box_event ?hg (N := 13) ?hd (cs := #[.int .i64 0, .int .i64 0, .int .i64 0]) (t := 27) ?hr ?_; (case hd => rfl); (case hg => rfl); (case hr => first | (go_simp; done) | (go_simp; rfl)); intro gb280 hg w104 hbox hb; have n0_ := AM (Kd.R_below (by (with_reducible repeat (first | apply Kd.R_alloc | apply Kd.R_drewN | apply Kd.R_drew)); exact HO_73.out) hb); have n1_ := AM (Kd.R_below (Kd.R_elderB (by (with_reducible repeat (first | apply Kd.R_alloc | apply Kd.R_drewN | apply Kd.R_drew)); exact HO_88.out) gb280 (Nat.le_of_eq hg.symm)) hb); have n2_ := AM (blk_below (g := gb254) (o := .cells #[.int .i64 a3_0, .int .i64 a3_1, .int .i64 a3_2] 27 (0, 0)) (by (with_reducible repeat (first | refine vN ?_ _ | refine vD ?_ | refine vA ?_ _)); exact BK254.out) hb); have n3_ := AM (below_step (by repeat (first | (with_reducible first | exact HB.out | apply wA | apply wN | apply wD | refine wS ?_ GE254.out) | exact HB.out)) hb); have n4_ := AM (hbox); have n5_ := AM ((by rw [hg]; exact (below_size (by repeat (first | (with_reducible first | exact HB.out | apply wA | apply wN | apply wD | refine wS ?_ GE254.out) | exact HB.out))) : w.heap.size ≤ gb280)); have n6_ := AM ((by rw [hg]; exact (below_size (by repeat (first | (with_reducible first | exact HB.out | apply wA | apply wN | apply wD | refine wS ?_ GE254.out) | exact HB.out))) : w.heap.size ≤ gb280)); have n7_ := AM ((by rw [hg]; exact Nat.ne_of_lt (blk_lt (g := gb254) (o := .cells #[.int .i64 a3_0, .int .i64 a3_1, .int .i64 a3_2] 27 (0, 0)) (by (with_reducible repeat (first | refine vN ?_ _ | refine vD ?_ | refine vA ?_ _)); exact BK254.out)) : gb254 ≠ gb280)); have n8_ := AM ((by rw [hg]; exact Nat.ne_of_gt (blk_lt (g := gb254) (o := .cells #[.int .i64 a3_0, .int .i64 a3_1, .int .i64 a3_2] 27 (0, 0)) (by (with_reducible repeat (first | refine vN ?_ _ | refine vD ?_ | refine vA ?_ _)); exact BK254.out)) : gb280 ≠ gb254)); clear HO_73; clear HO_88; clear BK254; clear HB; have HO_73 := n0_; have HO_88 := n1_; have BK254 := n2_; have HB := n3_; have BK280 := n4_; have GW280 := n5_; have GE280 := n6_; have NB254_280 := n7_; have NB280_254 := n8_; clear n0_ n1_ n2_ n3_ n4_ n5_ n6_ n7_ n8_; clear hb hbox hg; have hnb105 := NB280_254.out; have hnc105 := NB254_280.out; have hcz106_0 : w104.cell? ⟨gb280, 0, none⟩ = some (.int .i64 0) := (blk_cell BK280.out 0).trans rfl; have hcz106_1 : w104.cell? ⟨gb280, 1, none⟩ = some (.int .i64 0) := (blk_cell BK280.out 1).trans rfl; have hcz106_2 : w104.cell? ⟨gb280, 2, none⟩ = some (.int .i64 0) := (blk_cell BK280.out 2).trans rfl; have hfz106_0 := blk_frozen BK280.out 0; have hfz106_1 := blk_frozen BK280.out 1; have hfz106_2 := blk_frozen BK280.out 2))
                    have n0_ : Aside0 (Kd.R (Kd.int .i64) 3 (((w104.setCell ⟨gb280, 0, none⟩ (.int .i64 ((rd_T27 t272 x90_3).f0))).setCell ⟨gb280, 1, none⟩ (.int .i64 ((rd_T27 t272 x90_3).f1))).setCell ⟨gb280, 2, none⟩ (.int .i64 ((rd_T27 t272 x90_3).f2))) w.heap.size (fun _ => True) (.slice (some ad271) y268.length co60) y268) := ⟨by (with_reducible repeat (first | apply Kd.R_alloc | apply Kd.R_drewN | apply Kd.R_drew)); exact Kd.R_mono (Kd.R_far (p := ⟨gb280, 2, none⟩) (Kd.R_far (p := ⟨gb280, 1, none⟩) (Kd.R_far (p := ⟨gb280, 0, none⟩) (Kd.R_types HO_73.out BK280.out (by decide)) (fun _ hk => hk.2) (.int .i64 ((rd_T27 t272 x90_3).f0))) (fun _ hk => hk.2) (.int .i64 ((rd_T27 t272 x90_3).f1))) (fun _ hk => hk.2) (.int .i64 ((rd_T27 t272 x90_3).f2))) (fun _ hk => trivial)⟩
                    have n1_ : Aside0 (Kd.R k27 27 (((w104.setCell ⟨gb280, 0, none⟩ (.int .i64 ((rd_T27 t272 x90_3).f0))).setCell ⟨gb280, 1, none⟩ (.int .i64 ((rd_T27 t272 x90_3).f1))).setCell ⟨gb280, 2, none⟩ (.int .i64 ((rd_T27 t272 x90_3).f2))) w.heap.size (fun k_ => k_ ≠ gb254 ∧ k_ ≠ gb280) (.slice (some ad279) t272.length co70) t272) := ⟨by (with_reducible repeat (first | apply Kd.R_alloc | apply Kd.R_drewN | apply Kd.R_drew)); exact Kd.R_mono (Kd.R_far (p := ⟨gb280, 2, none⟩) (Kd.R_far (p := ⟨gb280, 1, none⟩) (Kd.R_far (p := ⟨gb280, 0, none⟩) (Kd.R_mono HO_88.out (fun k_ hk => (⟨hk, hk.2⟩ : _ ∧ k_ ≠ gb280))) (fun _ hk => hk.2) (.int .i64 ((rd_T27 t272 x90_3).f0))) (fun _ hk => hk.2) (.int .i64 ((rd_T27 t272 x90_3).f1))) (fun _ hk => hk.2) (.int .i64 ((rd_T27 t272 x90_3).f2))) (fun _ hk => ⟨hk.1.1, hk.1.2⟩)⟩
                    have n2_ : Aside0 ((((w104.setCell ⟨gb280, 0, none⟩ (.int .i64 ((rd_T27 t272 x90_3).f0))).setCell ⟨gb280, 1, none⟩ (.int .i64 ((rd_T27 t272 x90_3).f1))).setCell ⟨gb280, 2, none⟩ (.int .i64 ((rd_T27 t272 x90_3).f2))).heap[gb254]? = some (.cells #[.int .i64 a3_0, .int .i64 a3_1, .int .i64 a3_2] 27 (0, 0))) := ⟨by (with_reducible repeat (first | refine vN ?_ _ | refine vD ?_ | refine vA ?_ _)); refine blk_far ?_ NB254_280.out _; (with_reducible repeat (first | refine vN ?_ _ | refine vD ?_ | refine vA ?_ _)); refine blk_far ?_ NB254_280.out _; (with_reducible repeat (first | refine vN ?_ _ | refine vD ?_ | refine vA ?_ _)); refine blk_far ?_ NB254_280.out _; (with_reducible repeat (first | refine vN ?_ _ | refine vD ?_ | refine vA ?_ _)); exact BK254.out⟩
                    have n3_ : Aside0 ((((w104.setCell ⟨gb280, 0, none⟩ (.int .i64 ((rd_T27 t272 x90_3).f0))).setCell ⟨gb280, 1, none⟩ (.int .i64 ((rd_T27 t272 x90_3).f1))).setCell ⟨gb280, 2, none⟩ (.int .i64 ((rd_T27 t272 x90_3).f2))).heap[gb280]? = some (.cells #[.int .i64 ((rd_T27 t272 x90_3).f0), .int .i64 ((rd_T27 t272 x90_3).f1), .int .i64 ((rd_T27 t272 x90_3).f2)] 27 (0, 0))) := ⟨by (with_reducible repeat (first | refine vN ?_ _ | refine vD ?_ | refine vA ?_ _)); refine blk_put (cs := #[.int .i64 ((rd_T27 t272 x90_3).f0), .int .i64 ((rd_T27 t272 x90_3).f1), .int .i64 0]) ?_ 2 _ rfl; (with_reducible repeat (first | refine vN ?_ _ | refine vD ?_ | refine vA ?_ _)); refine blk_put (cs := #[.int .i64 ((rd_T27 t272 x90_3).f0), .int .i64 0, .int .i64 0]) ?_ 1 _ rfl; (with_reducible repeat (first | refine vN ?_ _ | refine vD ?_ | refine vA ?_ _)); refine blk_put (cs := #[.int .i64 0, .int .i64 0, .int .i64 0]) ?_ 0 _ rfl; (with_reducible repeat (first | refine vN ?_ _ | refine vD ?_ | refine vA ?_ _)); exact BK280.out⟩
                    have n4_ : Aside0 (Below w.heap.size w (((w104.setCell ⟨gb280, 0, none⟩ (.int .i64 ((rd_T27 t272 x90_3).f0))).setCell ⟨gb280, 1, none⟩ (.int .i64 ((rd_T27 t272 x90_3).f1))).setCell ⟨gb280, 2, none⟩ (.int .i64 ((rd_T27 t272 x90_3).f2)))) := ⟨by repeat (first | (with_reducible first | exact HB.out | apply wA | apply wN | apply wD | refine wS ?_ GE254.out | refine wS ?_ GE280.out) | exact HB.out)⟩
                    (try clear HO_73)
                    (try clear HO_88)
                    (try clear BK254)
                    (try clear BK280)
                    (try clear HB)
                    generalize (((w104.setCell ⟨gb280, 0, none⟩ (.int .i64 ((rd_T27 t272 x90_3).f0))).setCell ⟨gb280, 1, none⟩ (.int .i64 ((rd_T27 t272 x90_3).f1))).setCell ⟨gb280, 2, none⟩ (.int .i64 ((rd_T27 t272 x90_3).f2))) = w107 at n0_ n1_ n2_ n3_ n4_ ⊢
                    have HO_73 := n0_
                    have HO_88 := n1_
                    have BK254 := n2_
                    have BK280 := n3_
                    have HB := n4_
                    clear n0_ n1_ n2_ n3_ n4_
                    have n0_ := AM (Kd.R_drew HO_73.out)
                    have n1_ := AM (Kd.R_drew HO_88.out)
                    have n2_ := AM (vD BK254.out)
                    have n3_ := AM (vD BK280.out)
                    have n4_ := AM (wD HB.out)
                    clear HO_73
                    clear HO_88
                    clear BK254
                    clear BK280
                    clear HB
                    have HO_73 := n0_
                    have HO_88 := n1_
                    have BK254 := n2_
                    have BK280 := n3_
                    have HB := n4_
                    clear n0_ n1_ n2_ n3_ n4_
                    refine start_ (n := 25) (S := fun w' => w'.cell? ⟨gb280, 0, none⟩ = some (.int .i64 ((rd_T27 t272 x90_3).f0)) ∧ w'.cell? ⟨gb280, 1, none⟩ = some (.int .i64 ((rd_T27 t272 x90_3).f1)) ∧ w'.cell? ⟨gb280, 2, none⟩ = some (.int .i64 ((rd_T27 t272 x90_3).f2))) (ds := []) mk_65 (by kernel_rfl) rfl rfl ⟨(blk_cell BK280.out 0).trans rfl, (blk_cell BK280.out 1).trans rfl, (blk_cell BK280.out 2).trans rfl⟩ (fun hHeld => ?_); refine with_tabW targumlaw2_BrkTells.tab16 targumlaw2_BrkTells.bits16 (fun HT_ HW_ => ?_)
                    generalize w107.drew = w108 at HO_73 HO_88 BK254 BK280 HB hHeld ⊢
                    refine P1 ?_ 0 94 mk_66 rfl rfl HT_.out (by kernel_rfl) (fun _ _ _ => id) (.inl ⟨by rfl, ?_⟩) ?_ ?_ ?_; rotate_left; (intro w'; go_simp; with_reducible rfl); rotate_left; (simp only [pa, qz, qs, qi, qj]; rfl)
                    refine P1 ?_ 3 97 mk_67 rfl rfl HT_.out (by kernel_rfl) (fun _ _ _ => id) (.inl ⟨by rfl, ?_⟩) ?_ ?_ ?_; rotate_left; (intro w'; go_simp; with_reducible rfl); rotate_left; (simp only [pa, qz, qs, qi, qj]; rfl)
                    refine T1 ?_ 1 95 mk_68 rfl rfl HT_.out HW_.out (by kernel_rfl) (fun _ _ _ => id) (.inl ⟨by rfl, ?_⟩) hHeld ?_ ?_ ?_; rotate_left; (rintro w' ⟨s0, s1, s2⟩; go_simp; with_reducible rfl); rotate_left; (simp only [pa, qz, qs, qi, qj]; rfl)
                    refine T1 ?_ 4 98 mk_69 rfl rfl HT_.out HW_.out (by kernel_rfl) (fun _ _ _ => id) (.inl ⟨by rfl, ?_⟩) hHeld ?_ ?_ ?_; rotate_left; (rintro w' ⟨s0, s1, s2⟩; go_simp; with_reducible rfl); rotate_left; (simp only [pa, qz, qs, qi, qj]; rfl)
                    refine one_ (i := 2) (N := some 96) mk_70 rfl rfl (one_of HT_.out (by kernel_rfl)) (by decide) (fun K hK => ?_)
                    refine goes_ Tryd.func20 (by kernel_rfl) rfl #[.string a0, .agg #[.int .i64 ((rd_T27 t272 x90_3).f0), .int .i64 ((rd_T27 t272 x90_3).f1), .int .i64 ((rd_T27 t272 x90_3).f2)]] (by rfl) rfl rfl (by (try simp only [qT, qC, qN]); first | done | rfl | (simp only [qD, qU]; rfl)) ?_
                    with_reducible refine (brk_Indent.calls a0 ((rd_T27 t272 x90_3).f0) ((rd_T27 t272 x90_3).f1) ((rd_T27 t272 x90_3).f2) t281 _ A75.out).mono ?_
                    rintro e w109 ⟨rfl, hb⟩
                    refine ⟨_, rfl, ?_⟩
                    have n0_ := AM (Kd.R_below (by (with_reducible repeat (first | apply Kd.R_alloc | apply Kd.R_drewN | apply Kd.R_drew)); exact HO_73.out) hb)
                    have n1_ := AM (Kd.R_below (by (with_reducible repeat (first | apply Kd.R_alloc | apply Kd.R_drewN | apply Kd.R_drew)); exact HO_88.out) hb)
                    have n2_ := AM (blk_below (g := gb254) (o := .cells #[.int .i64 a3_0, .int .i64 a3_1, .int .i64 a3_2] 27 (0, 0)) (by (with_reducible repeat (first | refine vN ?_ _ | refine vD ?_ | refine vA ?_ _)); exact BK254.out) hb)
                    have n3_ := AM (blk_below (g := gb280) (o := .cells #[.int .i64 ((rd_T27 t272 x90_3).f0), .int .i64 ((rd_T27 t272 x90_3).f1), .int .i64 ((rd_T27 t272 x90_3).f2)] 27 (0, 0)) (by (with_reducible repeat (first | refine vN ?_ _ | refine vD ?_ | refine vA ?_ _)); exact BK280.out) hb)
                    have n4_ := AM (below_step (by repeat (first | (with_reducible first | exact HB.out | apply wA | apply wN | apply wD | refine wS ?_ GE254.out | refine wS ?_ GE280.out) | exact HB.out)) hb)
                    clear HO_73
                    clear HO_88
                    clear BK254
                    clear BK280
                    clear HB
                    have HO_73 := n0_
                    have HO_88 := n1_
                    have BK254 := n2_
                    have BK280 := n3_
                    have HB := n4_
                    clear n0_ n1_ n2_ n3_ n4_
                    (try clear hb)
                    (try clear hb2)
                    (try clear hk)
                    (try clear hi)
                    refine hK.out _ _ ⟨(blk_cell BK280.out 0).trans rfl, (blk_cell BK280.out 1).trans rfl, (blk_cell BK280.out 2).trans rfl⟩ (fun hHeld => ?_)
                    clear hK K
                    refine norm_ (a' := ?_) ?_ ?_
                    rotate_left
                    ·show Act.put _ (some 96) _ = _
                     simp only [Act.put, qI, qz, qs, qi, qj]
                     rfl
                    refine one_ (i := 5) (N := some 99) mk_71 rfl rfl (one_of HT_.out (by kernel_rfl)) (by decide) (fun K hK => ?_)
                    refine goes_ Tryd.func21 (by kernel_rfl) rfl #[.string a0, .agg #[.int .i64 ((rd_T27 t272 x90_3).f0), .int .i64 ((rd_T27 t272 x90_3).f1), .int .i64 ((rd_T27 t272 x90_3).f2)]] (by rfl) rfl rfl (by (try simp only [qT, qC, qN]); first | done | rfl | (simp only [qD, qU]; rfl)) ?_
                    with_reducible refine (targumref1_Indent.calls k3 a0 ((rd_T27 t272 x90_3).f0) ((rd_T27 t272 x90_3).f1) ((rd_T27 t272 x90_3).f2) t282 _ A76.out).mono ?_
                    rintro e w110 ⟨rfl, hb⟩
                    refine ⟨_, rfl, ?_⟩
                    have n0_ := AM (Kd.R_below (by (with_reducible repeat (first | apply Kd.R_alloc | apply Kd.R_drewN | apply Kd.R_drew)); exact HO_73.out) hb)
                    have n1_ := AM (Kd.R_below (by (with_reducible repeat (first | apply Kd.R_alloc | apply Kd.R_drewN | apply Kd.R_drew)); exact HO_88.out) hb)
                    have n2_ := AM (blk_below (g := gb254) (o := .cells #[.int .i64 a3_0, .int .i64 a3_1, .int .i64 a3_2] 27 (0, 0)) (by (with_reducible repeat (first | refine vN ?_ _ | refine vD ?_ | refine vA ?_ _)); exact BK254.out) hb)
                    have n3_ := AM (blk_below (g := gb280) (o := .cells #[.int .i64 ((rd_T27 t272 x90_3).f0), .int .i64 ((rd_T27 t272 x90_3).f1), .int .i64 ((rd_T27 t272 x90_3).f2)] 27 (0, 0)) (by (with_reducible repeat (first | refine vN ?_ _ | refine vD ?_ | refine vA ?_ _)); exact BK280.out) hb)
                    have n4_ := AM (below_step (by repeat (first | (with_reducible first | exact HB.out | apply wA | apply wN | apply wD | refine wS ?_ GE254.out | refine wS ?_ GE280.out) | exact HB.out)) hb)
                    clear HO_73
                    clear HO_88
                    clear BK254
                    clear BK280
                    clear HB
                    have HO_73 := n0_
                    have HO_88 := n1_
                    have BK254 := n2_
                    have BK280 := n3_
                    have HB := n4_
                    clear n0_ n1_ n2_ n3_ n4_
                    (try clear hb)
                    (try clear hb2)
                    (try clear hk)
                    (try clear hi)
                    refine hK.out _ _ ⟨(blk_cell BK280.out 0).trans rfl, (blk_cell BK280.out 1).trans rfl, (blk_cell BK280.out 2).trans rfl⟩ (fun hHeld => ?_)
                    clear hK K
                    refine norm_ (a' := ?_) ?_ ?_
                    rotate_left
                    ·show Act.put _ (some 99) _ = _
                     simp only [Act.put, qI, qz, qs, qi, qj]
                     rfl
                    refine P1 ?_ 6 100 mk_72 rfl rfl HT_.out (by kernel_rfl) (fun _ _ _ => id) (.inl ⟨by rfl, ?_⟩) ?_ ?_ ?_; rotate_left; (intro w'; go_simp; with_reducible rfl); rotate_left; (simp only [pa, qz, qs, qi, qj]; rfl)
                    refine P1 ?_ 7 101 mk_73 rfl rfl HT_.out (by kernel_rfl) (fun _ _ _ => id) (.inl ⟨by rfl, ?_⟩) ?_ ?_ ?_; rotate_left; (intro w'; go_simp; with_reducible rfl); rotate_left; (simp only [pa, qz, qs, qi, qj]; rfl)
                    refine P1 ?_ 8 102 mk_74 rfl rfl HT_.out (by kernel_rfl) (fun _ _ _ => id) (.inl ⟨by rfl, ?_⟩) ?_ ?_ ?_; rotate_left; (intro w'; go_simp; with_reducible rfl); rotate_left; (simp only [pa, qz, qs, qi, qj]; rfl)
                    refine P1 ?_ 11 105 mk_75 rfl rfl HT_.out (by kernel_rfl) (fun _ _ _ => id) (.inl ⟨by rfl, ?_⟩) ?_ ?_ ?_; rotate_left; (intro w'; go_simp; with_reducible rfl); rotate_left; (simp only [pa, qz, qs, qi, qj]; rfl)
                    refine T1 ?_ 9 103 mk_76 rfl rfl HT_.out HW_.out (by kernel_rfl) (fun _ _ _ => id) (.inl ⟨by rfl, ?_⟩) hHeld ?_ ?_ ?_; rotate_left; (rintro w' ⟨s0, s1, s2⟩; go_simp; with_reducible rfl); rotate_left; (simp only [pa, qz, qs, qi, qj]; rfl)
                    refine T1 ?_ 12 106 mk_77 rfl rfl HT_.out HW_.out (by kernel_rfl) (fun _ _ _ => id) (.inl ⟨by rfl, ?_⟩) hHeld ?_ ?_ ?_; rotate_left; (rintro w' ⟨s0, s1, s2⟩; go_simp; with_reducible rfl); rotate_left; (simp only [pa, qz, qs, qi, qj]; rfl)
                    refine one_ (i := 10) (N := some 104) mk_78 rfl rfl (one_of HT_.out (by kernel_rfl)) (by decide) (fun K hK => ?_)
                    refine goes_ Tryd.func22 (by kernel_rfl) rfl #[.string a0, .agg #[.int .i64 ((rd_T27 t272 x90_3).f0), .int .i64 ((rd_T27 t272 x90_3).f1), .int .i64 ((rd_T27 t272 x90_3).f2)]] (by rfl) rfl rfl (by (try simp only [qT, qC, qN]); first | done | rfl | (simp only [qD, qU]; rfl)) ?_
                    with_reducible refine (brk_Blank.calls a0 ((rd_T27 t272 x90_3).f0) ((rd_T27 t272 x90_3).f1) ((rd_T27 t272 x90_3).f2) t283 _ A78.out).mono ?_
                    rintro e w111 ⟨rfl, hb⟩
                    refine ⟨_, rfl, ?_⟩
                    have n0_ := AM (Kd.R_below (by (with_reducible repeat (first | apply Kd.R_alloc | apply Kd.R_drewN | apply Kd.R_drew)); exact HO_73.out) hb)
                    have n1_ := AM (Kd.R_below (by (with_reducible repeat (first | apply Kd.R_alloc | apply Kd.R_drewN | apply Kd.R_drew)); exact HO_88.out) hb)
                    have n2_ := AM (blk_below (g := gb254) (o := .cells #[.int .i64 a3_0, .int .i64 a3_1, .int .i64 a3_2] 27 (0, 0)) (by (with_reducible repeat (first | refine vN ?_ _ | refine vD ?_ | refine vA ?_ _)); exact BK254.out) hb)
                    have n3_ := AM (blk_below (g := gb280) (o := .cells #[.int .i64 ((rd_T27 t272 x90_3).f0), .int .i64 ((rd_T27 t272 x90_3).f1), .int .i64 ((rd_T27 t272 x90_3).f2)] 27 (0, 0)) (by (with_reducible repeat (first | refine vN ?_ _ | refine vD ?_ | refine vA ?_ _)); exact BK280.out) hb)
                    have n4_ := AM (below_step (by repeat (first | (with_reducible first | exact HB.out | apply wA | apply wN | apply wD | refine wS ?_ GE254.out | refine wS ?_ GE280.out) | exact HB.out)) hb)
                    clear HO_73
                    clear HO_88
                    clear BK254
                    clear BK280
                    clear HB
                    have HO_73 := n0_
                    have HO_88 := n1_
                    have BK254 := n2_
                    have BK280 := n3_
                    have HB := n4_
                    clear n0_ n1_ n2_ n3_ n4_
                    (try clear hb)
                    (try clear hb2)
                    (try clear hk)
                    (try clear hi)
                    refine hK.out _ _ ⟨(blk_cell BK280.out 0).trans rfl, (blk_cell BK280.out 1).trans rfl, (blk_cell BK280.out 2).trans rfl⟩ (fun hHeld => ?_)
                    clear hK K
                    refine norm_ (a' := ?_) ?_ ?_
                    rotate_left
                    ·show Act.put _ (some 104) _ = _
                     simp only [Act.put, qI, qz, qs, qi, qj]
                     rfl
                    refine one_ (i := 13) (N := some 107) mk_79 rfl rfl (one_of HT_.out (by kernel_rfl)) (by decide) (fun K hK => ?_)
                    refine goes_ Tryd.func23 (by kernel_rfl) rfl #[.string a0, .agg #[.int .i64 ((rd_T27 t272 x90_3).f0), .int .i64 ((rd_T27 t272 x90_3).f1), .int .i64 ((rd_T27 t272 x90_3).f2)]] (by rfl) rfl rfl (by (try simp only [qT, qC, qN]); first | done | rfl | (simp only [qD, qU]; rfl)) ?_
                    with_reducible refine (targumref1_Blank.calls k3 a0 ((rd_T27 t272 x90_3).f0) ((rd_T27 t272 x90_3).f1) ((rd_T27 t272 x90_3).f2) t284 _ A79.out).mono ?_
                    rintro e w112 ⟨rfl, hb⟩
                    refine ⟨_, rfl, ?_⟩
                    have n0_ := AM (Kd.R_below (by (with_reducible repeat (first | apply Kd.R_alloc | apply Kd.R_drewN | apply Kd.R_drew)); exact HO_73.out) hb)
                    have n1_ := AM (Kd.R_below (by (with_reducible repeat (first | apply Kd.R_alloc | apply Kd.R_drewN | apply Kd.R_drew)); exact HO_88.out) hb)
                    have n2_ := AM (blk_below (g := gb254) (o := .cells #[.int .i64 a3_0, .int .i64 a3_1, .int .i64 a3_2] 27 (0, 0)) (by (with_reducible repeat (first | refine vN ?_ _ | refine vD ?_ | refine vA ?_ _)); exact BK254.out) hb)
                    have n3_ := AM (blk_below (g := gb280) (o := .cells #[.int .i64 ((rd_T27 t272 x90_3).f0), .int .i64 ((rd_T27 t272 x90_3).f1), .int .i64 ((rd_T27 t272 x90_3).f2)] 27 (0, 0)) (by (with_reducible repeat (first | refine vN ?_ _ | refine vD ?_ | refine vA ?_ _)); exact BK280.out) hb)
                    have n4_ := AM (below_step (by repeat (first | (with_reducible first | exact HB.out | apply wA | apply wN | apply wD | refine wS ?_ GE254.out | refine wS ?_ GE280.out) | exact HB.out)) hb)
                    clear HO_73
                    clear HO_88
                    clear BK254
                    clear BK280
                    clear HB
                    have HO_73 := n0_
                    have HO_88 := n1_
                    have BK254 := n2_
                    have BK280 := n3_
                    have HB := n4_
                    clear n0_ n1_ n2_ n3_ n4_
                    (try clear hb)
                    (try clear hb2)
                    (try clear hk)
                    (try clear hi)
                    refine hK.out _ _ ⟨(blk_cell BK280.out 0).trans rfl, (blk_cell BK280.out 1).trans rfl, (blk_cell BK280.out 2).trans rfl⟩ (fun hHeld => ?_)
                    clear hK K
                    refine norm_ (a' := ?_) ?_ ?_
                    rotate_left
                    ·show Act.put _ (some 107) _ = _
                     simp only [Act.put, qI, qz, qs, qi, qj]
                     rfl
                    refine P1 ?_ 14 108 mk_80 rfl rfl HT_.out (by kernel_rfl) (fun _ _ _ => id) (.inl ⟨by rfl, ?_⟩) ?_ ?_ ?_; rotate_left; (intro w'; go_simp; with_reducible rfl); rotate_left; (simp only [pa, qz, qs, qi, qj]; rfl)
                    refine P1 ?_ 15 109 mk_81 rfl rfl HT_.out (by kernel_rfl) (fun _ _ _ => id) (.inl ⟨by rfl, ?_⟩) ?_ ?_ ?_; rotate_left; (intro w'; go_simp; with_reducible rfl); rotate_left; (simp only [pa, qz, qs, qi, qj]; rfl)
                    refine P1 ?_ 16 110 mk_82 rfl rfl HT_.out (by kernel_rfl) (fun _ _ _ => id) (.inl ⟨by rfl, ?_⟩) ?_ ?_ ?_; rotate_left; (intro w'; go_simp; with_reducible rfl); rotate_left; (simp only [pa, qz, qs, qi, qj]; rfl)
                    refine P1 ?_ 17 111 mk_83 rfl rfl HT_.out (by kernel_rfl) (fun _ _ _ => id) (.inl ⟨by rfl, ?_⟩) ?_ ?_ ?_; rotate_left; (intro w'; go_simp; with_reducible rfl); rotate_left; (simp only [pa, qz, qs, qi, qj]; rfl)
                    refine P1 ?_ 20 114 mk_91 rfl rfl HT_.out (by kernel_rfl) (fun _ _ _ => id) (.inl ⟨by rfl, ?_⟩) ?_ ?_ ?_; rotate_left; (intro w'; go_simp; with_reducible rfl); rotate_left; (simp only [pa, qz, qs, qi, qj]; rfl)
                    refine T1 ?_ 18 112 mk_92 rfl rfl HT_.out HW_.out (by kernel_rfl) (fun _ _ _ => id) (.inl ⟨by rfl, ?_⟩) hHeld ?_ ?_ ?_; rotate_left; (rintro w' ⟨s0, s1, s2⟩; go_simp; with_reducible rfl); rotate_left; (simp only [pa, qz, qs, qi, qj]; rfl)
                    refine T1 ?_ 21 115 mk_93 rfl rfl HT_.out HW_.out (by kernel_rfl) (fun _ _ _ => id) (.inl ⟨by rfl, ?_⟩) hHeld ?_ ?_ ?_; rotate_left; (rintro w' ⟨s0, s1, s2⟩; go_simp; with_reducible rfl); rotate_left; (simp only [pa, qz, qs, qi, qj]; rfl)
                    refine one_ (i := 19) (N := some 113) mk_87 rfl rfl (one_of HT_.out (by kernel_rfl)) (by decide) (fun K hK => ?_)
                    refine goes_ Tryd.func24 (by kernel_rfl) rfl #[.string a0, .agg #[.int .i64 ((rd_T27 t272 x90_3).f0), .int .i64 ((rd_T27 t272 x90_3).f1), .int .i64 ((rd_T27 t272 x90_3).f2)]] (by rfl) rfl rfl (by (try simp only [qT, qC, qN]); first | done | rfl | (simp only [qD, qU]; rfl)) ?_
                    with_reducible refine (brk_Marker.calls k3 a0 ((rd_T27 t272 x90_3).f0) ((rd_T27 t272 x90_3).f1) ((rd_T27 t272 x90_3).f2) t285 _ A90.out).mono ?_
                    rintro e w113 ⟨rfl, hb⟩
                    refine ⟨_, rfl, ?_⟩
                    have n0_ := AM (Kd.R_below (by (with_reducible repeat (first | apply Kd.R_alloc | apply Kd.R_drewN | apply Kd.R_drew)); exact HO_73.out) hb)
                    have n1_ := AM (Kd.R_below (by (with_reducible repeat (first | apply Kd.R_alloc | apply Kd.R_drewN | apply Kd.R_drew)); exact HO_88.out) hb)
                    have n2_ := AM (blk_below (g := gb254) (o := .cells #[.int .i64 a3_0, .int .i64 a3_1, .int .i64 a3_2] 27 (0, 0)) (by (with_reducible repeat (first | refine vN ?_ _ | refine vD ?_ | refine vA ?_ _)); exact BK254.out) hb)
                    have n3_ := AM (blk_below (g := gb280) (o := .cells #[.int .i64 ((rd_T27 t272 x90_3).f0), .int .i64 ((rd_T27 t272 x90_3).f1), .int .i64 ((rd_T27 t272 x90_3).f2)] 27 (0, 0)) (by (with_reducible repeat (first | refine vN ?_ _ | refine vD ?_ | refine vA ?_ _)); exact BK280.out) hb)
                    have n4_ := AM (below_step (by repeat (first | (with_reducible first | exact HB.out | apply wA | apply wN | apply wD | refine wS ?_ GE254.out | refine wS ?_ GE280.out) | exact HB.out)) hb)
                    clear HO_73
                    clear HO_88
                    clear BK254
                    clear BK280
                    clear HB
                    have HO_73 := n0_
                    have HO_88 := n1_
                    have BK254 := n2_
                    have BK280 := n3_
                    have HB := n4_
                    clear n0_ n1_ n2_ n3_ n4_
                    (try clear hb)
                    (try clear hb2)
                    (try clear hk)
                    (try clear hi)
                    refine hK.out _ _ ⟨(blk_cell BK280.out 0).trans rfl, (blk_cell BK280.out 1).trans rfl, (blk_cell BK280.out 2).trans rfl⟩ (fun hHeld => ?_)
                    clear hK K
                    refine norm_ (a' := ?_) ?_ ?_
                    rotate_left
                    ·show Act.put _ (some 113) _ = _
                     simp only [Act.put, qI, qz, qs, qi, qj]
                     rfl
                    refine one_ (i := 22) (N := some 116) mk_88 rfl rfl (one_of HT_.out (by kernel_rfl)) (by decide) (fun K hK => ?_)
                    refine goes_ Tryd.func25 (by kernel_rfl) rfl #[.string a0, .agg #[.int .i64 ((rd_T27 t272 x90_3).f0), .int .i64 ((rd_T27 t272 x90_3).f1), .int .i64 ((rd_T27 t272 x90_3).f2)]] (by rfl) rfl rfl (by (try simp only [qT, qC, qN]); first | done | rfl | (simp only [qD, qU]; rfl)) ?_
                    with_reducible refine (targumref1_Marker.calls k3 a0 ((rd_T27 t272 x90_3).f0) ((rd_T27 t272 x90_3).f1) ((rd_T27 t272 x90_3).f2) t286 _ A91.out).mono ?_
                    rintro e w114 ⟨rfl, hb⟩
                    refine ⟨_, rfl, ?_⟩
                    have n0_ := AM (Kd.R_below (by (with_reducible repeat (first | apply Kd.R_alloc | apply Kd.R_drewN | apply Kd.R_drew)); exact HO_73.out) hb)
                    have n1_ := AM (Kd.R_below (by (with_reducible repeat (first | apply Kd.R_alloc | apply Kd.R_drewN | apply Kd.R_drew)); exact HO_88.out) hb)
                    have n2_ := AM (blk_below (g := gb254) (o := .cells #[.int .i64 a3_0, .int .i64 a3_1, .int .i64 a3_2] 27 (0, 0)) (by (with_reducible repeat (first | refine vN ?_ _ | refine vD ?_ | refine vA ?_ _)); exact BK254.out) hb)
                    have n3_ := AM (blk_below (g := gb280) (o := .cells #[.int .i64 ((rd_T27 t272 x90_3).f0), .int .i64 ((rd_T27 t272 x90_3).f1), .int .i64 ((rd_T27 t272 x90_3).f2)] 27 (0, 0)) (by (with_reducible repeat (first | refine vN ?_ _ | refine vD ?_ | refine vA ?_ _)); exact BK280.out) hb)
                    have n4_ := AM (below_step (by repeat (first | (with_reducible first | exact HB.out | apply wA | apply wN | apply wD | refine wS ?_ GE254.out | refine wS ?_ GE280.out) | exact HB.out)) hb)
                    clear HO_73
                    clear HO_88
                    clear BK254
                    clear BK280
                    clear HB
                    have HO_73 := n0_
                    have HO_88 := n1_
                    have BK254 := n2_
                    have BK280 := n3_
                    have HB := n4_
                    clear n0_ n1_ n2_ n3_ n4_
                    (try clear hb)
                    (try clear hb2)
                    (try clear hk)
                    (try clear hi)
                    refine hK.out _ _ ⟨(blk_cell BK280.out 0).trans rfl, (blk_cell BK280.out 1).trans rfl, (blk_cell BK280.out 2).trans rfl⟩ (fun hHeld => ?_)
                    clear hK K
                    refine norm_ (a' := ?_) ?_ ?_
                    rotate_left
                    ·show Act.put _ (some 116) _ = _
                     simp only [Act.put, qI, qz, qs, qi, qj]
                     rfl
                    refine P1 ?_ 23 117 mk_89 rfl rfl HT_.out (by kernel_rfl) (fun _ _ _ => id) (.inl ⟨by rfl, ?_⟩) ?_ ?_ ?_; rotate_left; (intro w'; go_simp; with_reducible rfl); rotate_left; (simp only [pa, qz, qs, qi, qj]; rfl)
                    refine P1 ?_ 24 118 mk_90 rfl rfl HT_.out (by kernel_rfl) (fun _ _ _ => id) (.inl ⟨by rfl, ?_⟩) ?_ ?_ ?_; rotate_left; (intro w'; go_simp; with_reducible rfl); rotate_left; (simp only [pa, qz, qs, qi, qj]; rfl)
                    refine done_ (done_of HT_.out (by kernel_rfl)) ?_
                    try go_wp2
                    go_ret
                    exact ⟨by first | rfl | (simp [errW_none, errW_some] <;> rfl) | (simp [*, errW_none, errW_some] <;> rfl), by repeat (first | (with_reducible first | exact HB.out | apply wA | apply wN | apply wD | refine wS ?_ GE254.out | refine wS ?_ GE280.out) | exact HB.out)⟩
                 ·rw [if_neg c77] at H
                  have c77b0 : (t281 == t282) = false := beq_eq_false_iff_ne.mpr c77
                  have c77b1 : (t281 != t282) = true := bne_iff_ne.mpr c77
                  obtain rfl := Option.some.inj H
                  have p279 : 0 ≤ (x90_3 : Int) := of_decide_eq_true (by first | (with_reducible assumption) | assumption)
                  have q279 : x90_3 < (t272.length : Int) := of_decide_eq_true (by first | (with_reducible assumption) | assumption)
                  obtain ⟨ad279, e279, hx279_0, hx279_1, hx279_2⟩ := at_T27 (Kd.R_reads' HO_88.out).2.2 x90_3 p279 q279
                  cases e279
                  replace p279 := eq_true p279
                  replace q279 := eq_true q279
                  try go_wp2_with (first | ((with_reducible refine gate_dst (N := 13) rfl ?_); refine box_event ?hg (N := 13) ?hd (cs := #[.int .i64 0, .int .i64 0, .int .i64 0]) (t := 27) ?hr ?_; (case hd => rfl); (case hg => rfl); (case hr => first | (go_simp; done) | (go_simp; rfl)); intro gb280 hg w115 hbox hb; have n0_ := AM (Kd.R_below (by (with_reducible repeat (first | apply Kd.R_alloc | apply Kd.R_drewN | apply Kd.R_drew)); exact HO_73.out) hb); have n1_ := AM (Kd.R_below (Kd.R_elderB (by (with_reducible repeat (first | apply Kd.R_alloc | apply Kd.R_drewN | apply Kd.R_drew)); exact HO_88.out) gb280 (Nat.le_of_eq hg.symm)) hb); have n2_ := AM (blk_below (g := gb254) (o := .cells #[.int .i64 a3_0, .int .i64 a3_1, .int .i64 a3_2] 27 (0, 0)) (by (with_reducible repeat (first | refine vN ?_ _ | refine vD ?_ | refine vA ?_ _)); exact BK254.out) hb); have n3_ := AM (below_step (by repeat (first | (with_reducible first | exact HB.out | apply wA | apply wN | apply wD | refine wS ?_ GE254.out) | exact HB.out)) hb); have n4_ := AM (hbox); have n5_ := AM ((by rw [hg]; exact (below_size (by repeat (first | (with_reducible first | exact HB.out | apply wA | apply wN | apply wD | refine wS ?_ GE254.out) | exact HB.out))) : w.heap.size ≤ gb280)); have n6_ := AM ((by rw [hg]; exact (below_size (by repeat (first | (with_reducible first | exact HB.out | apply wA | apply wN | apply wD | refine wS ?_ GE254.out) | exact HB.out))) : w.heap.size ≤ gb280)); have n7_ := AM ((by rw [hg]; exact Nat.ne_of_lt (blk_lt (g := gb254) (o := .cells #[.int .i64 a3_0, .int .i64 a3_1, .int .i64 a3_2] 27 (0, 0)) (by (with_reducible repeat (first | refine vN ?_ _ | refine vD ?_ | refine vA ?_ _)); exact BK254.out)) : gb254 ≠ gb280)); have n8_ := AM ((by rw [hg]; exact Nat.ne_of_gt (blk_lt (g := gb254) (o := .cells #[.int .i64 a3_0, .int .i64 a3_1, .int .i64 a3_2] 27 (0, 0)) (by (with_reducible repeat (first | refine vN ?_ _ | refine vD ?_ | refine vA ?_ _)); exact BK254.out)) : gb280 ≠ gb254)); clear HO_73; clear HO_88; clear BK254; clear HB; have HO_73 := n0_; have HO_88 := n1_; have BK254 := n2_; have HB := n3_; have BK280 := n4_; have GW280 := n5_; have GE280 := n6_; have NB254_280 := n7_; have NB280_254 := n8_; clear n0_ n1_ n2_ n3_ n4_ n5_ n6_ n7_ n8_; clear hb hbox hg; have hnb116 := NB280_254.out; have hnc116 := NB254_280.out; have hcz117_0 : w115.cell? ⟨gb280, 0, none⟩ = some (.int .i64 0) := (blk_cell BK280.out 0).trans rfl; have hcz117_1 : w115.cell? ⟨gb280, 1, none⟩ = some (.int .i64 0) := (blk_cell BK280.out 1).trans rfl; have hcz117_2 : w115.cell? ⟨gb280, 2, none⟩ = some (.int .i64 0) := (blk_cell BK280.out 2).trans rfl; have hfz117_0 := blk_frozen BK280.out 0; have hfz117_1 := blk_frozen BK280.out 1; have hfz117_2 := blk_frozen BK280.out 2))
                  have n0_ : Aside0 (Kd.R (Kd.int .i64) 3 (((w115.setCell ⟨gb280, 0, none⟩ (.int .i64 ((rd_T27 t272 x90_3).f0))).setCell ⟨gb280, 1, none⟩ (.int .i64 ((rd_T27 t272 x90_3).f1))).setCell ⟨gb280, 2, none⟩ (.int .i64 ((rd_T27 t272 x90_3).f2))) w.heap.size (fun _ => True) (.slice (some ad271) y268.length co60) y268) := ⟨by (with_reducible repeat (first | apply Kd.R_alloc | apply Kd.R_drewN | apply Kd.R_drew)); exact Kd.R_mono (Kd.R_far (p := ⟨gb280, 2, none⟩) (Kd.R_far (p := ⟨gb280, 1, none⟩) (Kd.R_far (p := ⟨gb280, 0, none⟩) (Kd.R_types HO_73.out BK280.out (by decide)) (fun _ hk => hk.2) (.int .i64 ((rd_T27 t272 x90_3).f0))) (fun _ hk => hk.2) (.int .i64 ((rd_T27 t272 x90_3).f1))) (fun _ hk => hk.2) (.int .i64 ((rd_T27 t272 x90_3).f2))) (fun _ hk => trivial)⟩
                  have n1_ : Aside0 (Kd.R k27 27 (((w115.setCell ⟨gb280, 0, none⟩ (.int .i64 ((rd_T27 t272 x90_3).f0))).setCell ⟨gb280, 1, none⟩ (.int .i64 ((rd_T27 t272 x90_3).f1))).setCell ⟨gb280, 2, none⟩ (.int .i64 ((rd_T27 t272 x90_3).f2))) w.heap.size (fun k_ => k_ ≠ gb254 ∧ k_ ≠ gb280) (.slice (some ad279) t272.length co70) t272) := ⟨by (with_reducible repeat (first | apply Kd.R_alloc | apply Kd.R_drewN | apply Kd.R_drew)); exact Kd.R_mono (Kd.R_far (p := ⟨gb280, 2, none⟩) (Kd.R_far (p := ⟨gb280, 1, none⟩) (Kd.R_far (p := ⟨gb280, 0, none⟩) (Kd.R_mono HO_88.out (fun k_ hk => (⟨hk, hk.2⟩ : _ ∧ k_ ≠ gb280))) (fun _ hk => hk.2) (.int .i64 ((rd_T27 t272 x90_3).f0))) (fun _ hk => hk.2) (.int .i64 ((rd_T27 t272 x90_3).f1))) (fun _ hk => hk.2) (.int .i64 ((rd_T27 t272 x90_3).f2))) (fun _ hk => ⟨hk.1.1, hk.1.2⟩)⟩
                  have n2_ : Aside0 ((((w115.setCell ⟨gb280, 0, none⟩ (.int .i64 ((rd_T27 t272 x90_3).f0))).setCell ⟨gb280, 1, none⟩ (.int .i64 ((rd_T27 t272 x90_3).f1))).setCell ⟨gb280, 2, none⟩ (.int .i64 ((rd_T27 t272 x90_3).f2))).heap[gb254]? = some (.cells #[.int .i64 a3_0, .int .i64 a3_1, .int .i64 a3_2] 27 (0, 0))) := ⟨by (with_reducible repeat (first | refine vN ?_ _ | refine vD ?_ | refine vA ?_ _)); refine blk_far ?_ NB254_280.out _; (with_reducible repeat (first | refine vN ?_ _ | refine vD ?_ | refine vA ?_ _)); refine blk_far ?_ NB254_280.out _; (with_reducible repeat (first | refine vN ?_ _ | refine vD ?_ | refine vA ?_ _)); refine blk_far ?_ NB254_280.out _; (with_reducible repeat (first | refine vN ?_ _ | refine vD ?_ | refine vA ?_ _)); exact BK254.out⟩
                  have n3_ : Aside0 ((((w115.setCell ⟨gb280, 0, none⟩ (.int .i64 ((rd_T27 t272 x90_3).f0))).setCell ⟨gb280, 1, none⟩ (.int .i64 ((rd_T27 t272 x90_3).f1))).setCell ⟨gb280, 2, none⟩ (.int .i64 ((rd_T27 t272 x90_3).f2))).heap[gb280]? = some (.cells #[.int .i64 ((rd_T27 t272 x90_3).f0), .int .i64 ((rd_T27 t272 x90_3).f1), .int .i64 ((rd_T27 t272 x90_3).f2)] 27 (0, 0))) := ⟨by (with_reducible repeat (first | refine vN ?_ _ | refine vD ?_ | refine vA ?_ _)); refine blk_put (cs := #[.int .i64 ((rd_T27 t272 x90_3).f0), .int .i64 ((rd_T27 t272 x90_3).f1), .int .i64 0]) ?_ 2 _ rfl; (with_reducible repeat (first | refine vN ?_ _ | refine vD ?_ | refine vA ?_ _)); refine blk_put (cs := #[.int .i64 ((rd_T27 t272 x90_3).f0), .int .i64 0, .int .i64 0]) ?_ 1 _ rfl; (with_reducible repeat (first | refine vN ?_ _ | refine vD ?_ | refine vA ?_ _)); refine blk_put (cs := #[.int .i64 0, .int .i64 0, .int .i64 0]) ?_ 0 _ rfl; (with_reducible repeat (first | refine vN ?_ _ | refine vD ?_ | refine vA ?_ _)); exact BK280.out⟩
                  have n4_ : Aside0 (Below w.heap.size w (((w115.setCell ⟨gb280, 0, none⟩ (.int .i64 ((rd_T27 t272 x90_3).f0))).setCell ⟨gb280, 1, none⟩ (.int .i64 ((rd_T27 t272 x90_3).f1))).setCell ⟨gb280, 2, none⟩ (.int .i64 ((rd_T27 t272 x90_3).f2)))) := ⟨by repeat (first | (with_reducible first | exact HB.out | apply wA | apply wN | apply wD | refine wS ?_ GE254.out | refine wS ?_ GE280.out) | exact HB.out)⟩
                  (try clear HO_73)
                  (try clear HO_88)
                  (try clear BK254)
                  (try clear BK280)
                  (try clear HB)
                  generalize (((w115.setCell ⟨gb280, 0, none⟩ (.int .i64 ((rd_T27 t272 x90_3).f0))).setCell ⟨gb280, 1, none⟩ (.int .i64 ((rd_T27 t272 x90_3).f1))).setCell ⟨gb280, 2, none⟩ (.int .i64 ((rd_T27 t272 x90_3).f2))) = w118 at n0_ n1_ n2_ n3_ n4_ ⊢
                  have HO_73 := n0_
                  have HO_88 := n1_
                  have BK254 := n2_
                  have BK280 := n3_
                  have HB := n4_
                  clear n0_ n1_ n2_ n3_ n4_
                  have n0_ := AM (Kd.R_drew HO_73.out)
                  have n1_ := AM (Kd.R_drew HO_88.out)
                  have n2_ := AM (vD BK254.out)
                  have n3_ := AM (vD BK280.out)
                  have n4_ := AM (wD HB.out)
                  clear HO_73
                  clear HO_88
                  clear BK254
                  clear BK280
                  clear HB
                  have HO_73 := n0_
                  have HO_88 := n1_
                  have BK254 := n2_
                  have BK280 := n3_
                  have HB := n4_
                  clear n0_ n1_ n2_ n3_ n4_
                  refine start_ (n := 25) (S := fun w' => w'.cell? ⟨gb280, 0, none⟩ = some (.int .i64 ((rd_T27 t272 x90_3).f0)) ∧ w'.cell? ⟨gb280, 1, none⟩ = some (.int .i64 ((rd_T27 t272 x90_3).f1)) ∧ w'.cell? ⟨gb280, 2, none⟩ = some (.int .i64 ((rd_T27 t272 x90_3).f2))) (ds := []) mk_65 (by kernel_rfl) rfl rfl ⟨(blk_cell BK280.out 0).trans rfl, (blk_cell BK280.out 1).trans rfl, (blk_cell BK280.out 2).trans rfl⟩ (fun hHeld => ?_); refine with_tabW targumlaw2_BrkTells.tab16 targumlaw2_BrkTells.bits16 (fun HT_ HW_ => ?_)
                  generalize w118.drew = w119 at HO_73 HO_88 BK254 BK280 HB hHeld ⊢
                  refine P1 ?_ 0 94 mk_66 rfl rfl HT_.out (by kernel_rfl) (fun _ _ _ => id) (.inl ⟨by rfl, ?_⟩) ?_ ?_ ?_; rotate_left; (intro w'; go_simp; with_reducible rfl); rotate_left; (simp only [pa, qz, qs, qi, qj]; rfl)
                  refine P1 ?_ 3 97 mk_67 rfl rfl HT_.out (by kernel_rfl) (fun _ _ _ => id) (.inl ⟨by rfl, ?_⟩) ?_ ?_ ?_; rotate_left; (intro w'; go_simp; with_reducible rfl); rotate_left; (simp only [pa, qz, qs, qi, qj]; rfl)
                  refine T1 ?_ 1 95 mk_68 rfl rfl HT_.out HW_.out (by kernel_rfl) (fun _ _ _ => id) (.inl ⟨by rfl, ?_⟩) hHeld ?_ ?_ ?_; rotate_left; (rintro w' ⟨s0, s1, s2⟩; go_simp; with_reducible rfl); rotate_left; (simp only [pa, qz, qs, qi, qj]; rfl)
                  refine T1 ?_ 4 98 mk_69 rfl rfl HT_.out HW_.out (by kernel_rfl) (fun _ _ _ => id) (.inl ⟨by rfl, ?_⟩) hHeld ?_ ?_ ?_; rotate_left; (rintro w' ⟨s0, s1, s2⟩; go_simp; with_reducible rfl); rotate_left; (simp only [pa, qz, qs, qi, qj]; rfl)
                  refine one_ (i := 2) (N := some 96) mk_70 rfl rfl (one_of HT_.out (by kernel_rfl)) (by decide) (fun K hK => ?_)
                  refine goes_ Tryd.func20 (by kernel_rfl) rfl #[.string a0, .agg #[.int .i64 ((rd_T27 t272 x90_3).f0), .int .i64 ((rd_T27 t272 x90_3).f1), .int .i64 ((rd_T27 t272 x90_3).f2)]] (by rfl) rfl rfl (by (try simp only [qT, qC, qN]); first | done | rfl | (simp only [qD, qU]; rfl)) ?_
                  with_reducible refine (brk_Indent.calls a0 ((rd_T27 t272 x90_3).f0) ((rd_T27 t272 x90_3).f1) ((rd_T27 t272 x90_3).f2) t281 _ A75.out).mono ?_
                  rintro e w120 ⟨rfl, hb⟩
                  refine ⟨_, rfl, ?_⟩
                  have n0_ := AM (Kd.R_below (by (with_reducible repeat (first | apply Kd.R_alloc | apply Kd.R_drewN | apply Kd.R_drew)); exact HO_73.out) hb)
                  have n1_ := AM (Kd.R_below (by (with_reducible repeat (first | apply Kd.R_alloc | apply Kd.R_drewN | apply Kd.R_drew)); exact HO_88.out) hb)
                  have n2_ := AM (blk_below (g := gb254) (o := .cells #[.int .i64 a3_0, .int .i64 a3_1, .int .i64 a3_2] 27 (0, 0)) (by (with_reducible repeat (first | refine vN ?_ _ | refine vD ?_ | refine vA ?_ _)); exact BK254.out) hb)
                  have n3_ := AM (blk_below (g := gb280) (o := .cells #[.int .i64 ((rd_T27 t272 x90_3).f0), .int .i64 ((rd_T27 t272 x90_3).f1), .int .i64 ((rd_T27 t272 x90_3).f2)] 27 (0, 0)) (by (with_reducible repeat (first | refine vN ?_ _ | refine vD ?_ | refine vA ?_ _)); exact BK280.out) hb)
                  have n4_ := AM (below_step (by repeat (first | (with_reducible first | exact HB.out | apply wA | apply wN | apply wD | refine wS ?_ GE254.out | refine wS ?_ GE280.out) | exact HB.out)) hb)
                  clear HO_73
                  clear HO_88
                  clear BK254
                  clear BK280
                  clear HB
                  have HO_73 := n0_
                  have HO_88 := n1_
                  have BK254 := n2_
                  have BK280 := n3_
                  have HB := n4_
                  clear n0_ n1_ n2_ n3_ n4_
                  (try clear hb)
                  (try clear hb2)
                  (try clear hk)
                  (try clear hi)
                  refine hK.out _ _ ⟨(blk_cell BK280.out 0).trans rfl, (blk_cell BK280.out 1).trans rfl, (blk_cell BK280.out 2).trans rfl⟩ (fun hHeld => ?_)
                  clear hK K
                  refine norm_ (a' := ?_) ?_ ?_
                  rotate_left
                  ·show Act.put _ (some 96) _ = _
                   simp only [Act.put, qI, qz, qs, qi, qj]
                   rfl
                  refine one_ (i := 5) (N := some 99) mk_71 rfl rfl (one_of HT_.out (by kernel_rfl)) (by decide) (fun K hK => ?_)
                  refine goes_ Tryd.func21 (by kernel_rfl) rfl #[.string a0, .agg #[.int .i64 ((rd_T27 t272 x90_3).f0), .int .i64 ((rd_T27 t272 x90_3).f1), .int .i64 ((rd_T27 t272 x90_3).f2)]] (by rfl) rfl rfl (by (try simp only [qT, qC, qN]); first | done | rfl | (simp only [qD, qU]; rfl)) ?_
                  with_reducible refine (targumref1_Indent.calls k3 a0 ((rd_T27 t272 x90_3).f0) ((rd_T27 t272 x90_3).f1) ((rd_T27 t272 x90_3).f2) t282 _ A76.out).mono ?_
                  rintro e w121 ⟨rfl, hb⟩
                  refine ⟨_, rfl, ?_⟩
                  have n0_ := AM (Kd.R_below (by (with_reducible repeat (first | apply Kd.R_alloc | apply Kd.R_drewN | apply Kd.R_drew)); exact HO_73.out) hb)
                  have n1_ := AM (Kd.R_below (by (with_reducible repeat (first | apply Kd.R_alloc | apply Kd.R_drewN | apply Kd.R_drew)); exact HO_88.out) hb)
                  have n2_ := AM (blk_below (g := gb254) (o := .cells #[.int .i64 a3_0, .int .i64 a3_1, .int .i64 a3_2] 27 (0, 0)) (by (with_reducible repeat (first | refine vN ?_ _ | refine vD ?_ | refine vA ?_ _)); exact BK254.out) hb)
                  have n3_ := AM (blk_below (g := gb280) (o := .cells #[.int .i64 ((rd_T27 t272 x90_3).f0), .int .i64 ((rd_T27 t272 x90_3).f1), .int .i64 ((rd_T27 t272 x90_3).f2)] 27 (0, 0)) (by (with_reducible repeat (first | refine vN ?_ _ | refine vD ?_ | refine vA ?_ _)); exact BK280.out) hb)
                  have n4_ := AM (below_step (by repeat (first | (with_reducible first | exact HB.out | apply wA | apply wN | apply wD | refine wS ?_ GE254.out | refine wS ?_ GE280.out) | exact HB.out)) hb)
                  clear HO_73
                  clear HO_88
                  clear BK254
                  clear BK280
                  clear HB
                  have HO_73 := n0_
                  have HO_88 := n1_
                  have BK254 := n2_
                  have BK280 := n3_
                  have HB := n4_
                  clear n0_ n1_ n2_ n3_ n4_
                  (try clear hb)
                  (try clear hb2)
                  (try clear hk)
                  (try clear hi)
                  refine hK.out _ _ ⟨(blk_cell BK280.out 0).trans rfl, (blk_cell BK280.out 1).trans rfl, (blk_cell BK280.out 2).trans rfl⟩ (fun hHeld => ?_)
                  clear hK K
                  refine norm_ (a' := ?_) ?_ ?_
                  rotate_left
                  ·show Act.put _ (some 99) _ = _
                   simp only [Act.put, qI, qz, qs, qi, qj]
                   rfl
                  refine P1 ?_ 6 100 mk_72 rfl rfl HT_.out (by kernel_rfl) (fun _ _ _ => id) (.inl ⟨by rfl, ?_⟩) ?_ ?_ ?_; rotate_left; (intro w'; go_simp; with_reducible rfl); rotate_left; (simp only [pa, qz, qs, qi, qj]; rfl)
                  refine P1 ?_ 7 101 mk_73 rfl rfl HT_.out (by kernel_rfl) (fun _ _ _ => id) (.inl ⟨by rfl, ?_⟩) ?_ ?_ ?_; rotate_left; (intro w'; go_simp; with_reducible rfl); rotate_left; (simp only [pa, qz, qs, qi, qj]; rfl)
                  refine P1 undef 8 102 mk_74 rfl rfl HT_.out (by kernel_rfl) (fun _ _ _ => id) (.inr ⟨by rfl, rfl⟩) ?_ ?_ ?_; rotate_left; (simp only [pa, qz, qs, qi, qj]; rfl)
                  refine P1 undef 9 103 mk_94 rfl rfl HT_.out (by kernel_rfl) (fun _ _ _ => id) (.inr ⟨by rfl, rfl⟩) ?_ ?_ ?_; rotate_left; (simp only [pa, qz, qs, qi, qj]; rfl)
                  refine P1 undef 10 104 mk_95 rfl rfl HT_.out (by kernel_rfl) (fun _ _ _ => id) (.inr ⟨by rfl, rfl⟩) ?_ ?_ ?_; rotate_left; (simp only [pa, qz, qs, qi, qj]; rfl)
                  refine P1 undef 11 105 mk_96 rfl rfl HT_.out (by kernel_rfl) (fun _ _ _ => id) (.inr ⟨by rfl, rfl⟩) ?_ ?_ ?_; rotate_left; (simp only [pa, qz, qs, qi, qj]; rfl)
                  refine P1 undef 12 106 mk_78 rfl rfl HT_.out (by kernel_rfl) (fun _ _ _ => id) (.inr ⟨by rfl, rfl⟩) ?_ ?_ ?_; rotate_left; (simp only [pa, qz, qs, qi, qj]; rfl)
                  refine P1 undef 13 107 mk_79 rfl rfl HT_.out (by kernel_rfl) (fun _ _ _ => id) (.inr ⟨by rfl, rfl⟩) ?_ ?_ ?_; rotate_left; (simp only [pa, qz, qs, qi, qj]; rfl)
                  refine P1 undef 14 108 mk_80 rfl rfl HT_.out (by kernel_rfl) (fun _ _ _ => id) (.inr ⟨by rfl, rfl⟩) ?_ ?_ ?_; rotate_left; (simp only [pa, qz, qs, qi, qj]; rfl)
                  refine P1 ?_ 15 109 mk_81 rfl rfl HT_.out (by kernel_rfl) (fun _ _ _ => id) (.inl ⟨by rfl, ?_⟩) ?_ ?_ ?_; rotate_left; (intro w'; go_simp; with_reducible rfl); rotate_left; (simp only [pa, qz, qs, qi, qj]; rfl)
                  refine P1 ?_ 16 110 mk_82 rfl rfl HT_.out (by kernel_rfl) (fun _ _ _ => id) (.inl ⟨by rfl, ?_⟩) ?_ ?_ ?_; rotate_left; (intro w'; go_simp; with_reducible rfl); rotate_left; (simp only [pa, qz, qs, qi, qj]; rfl)
                  refine P1 undef 17 111 mk_83 rfl rfl HT_.out (by kernel_rfl) (fun _ _ _ => id) (.inr ⟨by rfl, rfl⟩) ?_ ?_ ?_; rotate_left; (simp only [pa, qz, qs, qi, qj]; rfl)
                  refine P1 undef 18 112 mk_84 rfl rfl HT_.out (by kernel_rfl) (fun _ _ _ => id) (.inr ⟨by rfl, rfl⟩) ?_ ?_ ?_; rotate_left; (simp only [pa, qz, qs, qi, qj]; rfl)
                  refine P1 undef 19 113 mk_85 rfl rfl HT_.out (by kernel_rfl) (fun _ _ _ => id) (.inr ⟨by rfl, rfl⟩) ?_ ?_ ?_; rotate_left; (simp only [pa, qz, qs, qi, qj]; rfl)
                  refine P1 undef 20 114 mk_86 rfl rfl HT_.out (by kernel_rfl) (fun _ _ _ => id) (.inr ⟨by rfl, rfl⟩) ?_ ?_ ?_; rotate_left; (simp only [pa, qz, qs, qi, qj]; rfl)
                  refine P1 undef 21 115 mk_87 rfl rfl HT_.out (by kernel_rfl) (fun _ _ _ => id) (.inr ⟨by rfl, rfl⟩) ?_ ?_ ?_; rotate_left; (simp only [pa, qz, qs, qi, qj]; rfl)
                  refine P1 undef 22 116 mk_88 rfl rfl HT_.out (by kernel_rfl) (fun _ _ _ => id) (.inr ⟨by rfl, rfl⟩) ?_ ?_ ?_; rotate_left; (simp only [pa, qz, qs, qi, qj]; rfl)
                  refine P1 undef 23 117 mk_89 rfl rfl HT_.out (by kernel_rfl) (fun _ _ _ => id) (.inr ⟨by rfl, rfl⟩) ?_ ?_ ?_; rotate_left; (simp only [pa, qz, qs, qi, qj]; rfl)
                  refine P1 ?_ 24 118 mk_90 rfl rfl HT_.out (by kernel_rfl) (fun _ _ _ => id) (.inl ⟨by rfl, ?_⟩) ?_ ?_ ?_; rotate_left; (intro w'; go_simp; with_reducible rfl); rotate_left; (simp only [pa, qz, qs, qi, qj]; rfl)
                  refine done_ (done_of HT_.out (by kernel_rfl)) ?_
                  try go_wp2
                  go_ret
                  exact ⟨by first | rfl | (simp [errW_none, errW_some] <;> rfl) | (simp [*, errW_none, errW_some] <;> rfl), by repeat (first | (with_reducible first | exact HB.out | apply wA | apply wN | apply wD | refine wS ?_ GE254.out | refine wS ?_ GE280.out) | exact HB.out)⟩
                ·rw [if_neg c74] at H
                 exact absurd H (by simp)
               ·rw [if_neg c73] at H
                exact absurd H (by simp)
              ·rw [if_neg c72] at H
               have c72b0 : decide (x90_3 < (t272.length : Int)) = false := decide_eq_false c72
               clear c72
               have H' := AM H
               clear H
               go_wp2
               go_roundg k3
               case measure => have := HJ9.out; have := HK2.out; have := HK3.out; omega
               case rel => exact ⟨(wrap64 (x75_2 + 1)), (by first | rfl | (simp; done) | (simp [*]; done) | (simp [wrap64]; done)), H', ⟨by have := HJ9.out; have := HK2.out; have := HK3.out; omega⟩, ⟨by (with_reducible repeat (first | apply Kd.R_alloc | apply Kd.R_drewN | apply Kd.R_drew)); exact HO_73.out⟩, ⟨by (with_reducible repeat (first | refine vN ?_ _ | refine vD ?_ | refine vA ?_ _)); exact BK254.out⟩, ⟨by repeat (first | (with_reducible first | exact HB.out | apply wA | apply wN | apply wD | refine wS ?_ GE254.out) | exact HB.out)⟩⟩
           ·replace c67 := Bool.eq_false_iff.mpr c67
            subst c67
            have H1 : (some false) = some r := by rw [if_neg (show ¬ (false = true) by decide)] at H; exact H
            clear H
            have H := H1
            clear H1
            obtain rfl := Option.some.inj H
            have p271 : 0 ≤ (x75_2 : Int) := of_decide_eq_true (by first | (with_reducible assumption) | assumption)
            have q271 : x75_2 < (y268.length : Int) := of_decide_eq_true (by first | (with_reducible assumption) | assumption)
            obtain ⟨ad271, e271, hx271_0⟩ := Kd.at_int (Kd.R_reads' HO_73.out).2.2 x75_2 p271 q271
            cases e271
            replace p271 := eq_true p271
            replace q271 := eq_true q271
            go_wp2_with (first | ((with_reducible refine gate_callee (f := 11) rfl ?_); refine goesL_ (some 81) rfl rfl Tryd.func11 (by kernel_rfl) rfl #[.int .i64 (rd y268 x75_2), .string a0] rfl (by (try simp only [qT, qC, qN]); first | done | rfl | (simp only [qD, qU]; rfl)) ?_; (with_reducible refine (brk_Lines.calls k2 (rd y268 x75_2) a0 t272 _ A64.out).mono ?_); rintro e w122 ⟨v273, rfl, ho0, hb⟩; refine ⟨_, rfl, ?_⟩; have n0_ := AM (Kd.R_below (by (with_reducible repeat (first | apply Kd.R_alloc | apply Kd.R_drewN | apply Kd.R_drew)); exact HO_73.out) hb); have n1_ := AM (Kd.R_lower (Kd.R_newB ho0 (g := gb254) (o := .cells #[.int .i64 a3_0, .int .i64 a3_1, .int .i64 a3_2] 27 (0, 0)) (by (with_reducible repeat (first | refine vN ?_ _ | refine vD ?_ | refine vA ?_ _)); exact BK254.out)) (below_size (by repeat (first | (with_reducible first | exact HB.out | apply wA | apply wN | apply wD | refine wS ?_ GE254.out) | exact HB.out)))); have n2_ := AM (blk_below (g := gb254) (o := .cells #[.int .i64 a3_0, .int .i64 a3_1, .int .i64 a3_2] 27 (0, 0)) (by (with_reducible repeat (first | refine vN ?_ _ | refine vD ?_ | refine vA ?_ _)); exact BK254.out) hb); have n3_ := AM (below_step (by repeat (first | (with_reducible first | exact HB.out | apply wA | apply wN | apply wD | refine wS ?_ GE254.out) | exact HB.out)) hb); clear HO_73; clear BK254; clear HB; have HO_73 := n0_; have HO274 := n1_; have BK254 := n2_; have HB := n3_; clear n0_ n1_ n2_ n3_; (try clear hb); (try clear hb2); (try clear hk); (try clear hi); (try clear ho0)) | ((with_reducible refine gate_callee (f := 26) rfl ?_); refine goesL_ (some 85) rfl rfl Tryd.func26 (by kernel_rfl) rfl #[.int .i64 (rd y268 x75_2), .string a0] rfl (by (try simp only [qT, qC, qN]); first | done | rfl | (simp only [qD, qU]; rfl)) ?_; (with_reducible refine (targumref1_Lines.calls k2 (rd y268 x75_2) a0 t275 _ A65.out).mono ?_); rintro e w123 ⟨v276, rfl, ho0, hb⟩; refine ⟨_, rfl, ?_⟩; have n0_ := AM (Kd.R_below (by (with_reducible repeat (first | apply Kd.R_alloc | apply Kd.R_drewN | apply Kd.R_drew)); exact HO_73.out) hb); have n1_ := AM (Kd.R_elder' (by (with_reducible repeat (first | apply Kd.R_alloc | apply Kd.R_drewN | apply Kd.R_drew)); exact HO274.out) (Kd.R_base ho0) hb); have n2_ := AM (Kd.R_lower (Kd.R_newB (Kd.R_new' ho0 (Kd.R_lt (by (with_reducible repeat (first | apply Kd.R_alloc | apply Kd.R_drewN | apply Kd.R_drew)); exact HO274.out))) (g := gb254) (o := .cells #[.int .i64 a3_0, .int .i64 a3_1, .int .i64 a3_2] 27 (0, 0)) (by (with_reducible repeat (first | refine vN ?_ _ | refine vD ?_ | refine vA ?_ _)); exact BK254.out)) (below_size (by repeat (first | (with_reducible first | exact HB.out | apply wA | apply wN | apply wD | refine wS ?_ GE254.out) | exact HB.out)))); have n3_ := AM (blk_below (g := gb254) (o := .cells #[.int .i64 a3_0, .int .i64 a3_1, .int .i64 a3_2] 27 (0, 0)) (by (with_reducible repeat (first | refine vN ?_ _ | refine vD ?_ | refine vA ?_ _)); exact BK254.out) hb); have n4_ := AM (below_step (by repeat (first | (with_reducible first | exact HB.out | apply wA | apply wN | apply wD | refine wS ?_ GE254.out) | exact HB.out)) hb); clear HO_73; clear HO274; clear BK254; clear HB; have HO_73 := n0_; have HO274 := n1_; have HO277 := n2_; have BK254 := n3_; have HB := n4_; clear n0_ n1_ n2_ n3_ n4_; (try clear hb); (try clear hb2); (try clear hk); (try clear hi); (try clear ho0); obtain ⟨Ao124, co124, eo124⟩ := Kd.R_slice HO274.out; subst eo124; obtain ⟨Ao125, co125, eo125⟩ := Kd.R_slice HO277.out; subst eo125) | ((with_reducible refine gate_callee (f := 13) rfl ?_); refine goesL_ (some 86) rfl rfl Tryd.func13 (by kernel_rfl) rfl #[.slice Ao124 t272.length co124, .slice Ao125 t275.length co125] rfl (by (try simp only [qT, qC, qN]); first | done | rfl | (simp only [qD, qU]; rfl)) ?_; (with_reducible refine (targumhelp_Lines.calls k2 _ _ t272 _ _ t275 false _ ?side1 ?side2 ?side3 ?side4 A66.out).mono ?_); (case side1 => repeat (first | exact (Kd.R_reads' HO274.out).2.2 | (with_reducible refine Kd.C_alloc ?_ _) | (with_reducible refine Kd.C_drewN ?_ _) | (with_reducible refine Kd.C_drew ?_))); (case side2 => exact (Kd.R_reads' HO274.out).2.1); (case side3 => repeat (first | exact (Kd.R_reads' HO277.out).2.2 | (with_reducible refine Kd.C_alloc ?_ _) | (with_reducible refine Kd.C_drewN ?_ _) | (with_reducible refine Kd.C_drew ?_))); (case side4 => exact (Kd.R_reads' HO277.out).2.1); rintro e w' ⟨rfl, ⟨nd, rfl⟩⟩; refine ⟨_, rfl, ?_⟩))
            go_ret
            exact ⟨by first | rfl | (simp [errW_none, errW_some] <;> rfl) | (simp [*, errW_none, errW_some] <;> rfl), by repeat (first | (with_reducible first | exact HB.out | apply wA | apply wN | apply wD | refine wS ?_ GE254.out) | exact HB.out)⟩
          ·rw [if_neg c63] at H
           exact absurd H (by simp)
         ·rw [if_neg c62] at H
          exact absurd H (by simp)
        ·rw [if_neg c61] at H
         have c61b0 : decide (x75_2 < (y268.length : Int)) = false := decide_eq_false c61
         clear c61
         have H' := AM H
         clear H
         go_wp2
         go_loopg [14] k2 (fun kq v14 w' => ∃ (x14_3 : Int), v14 = .int .i64 x14_3 ∧ Aside0 (targumlaw2_BrkTells.l2 kq a0 x14_3 = some r) ∧ Aside0 (kq ≤ k2) ∧ Aside0 (w'.heap[gb254]? = some (.cells #[.int .i64 a3_0, .int .i64 a3_1, .int .i64 a3_2] 27 (0, 0))) ∧ Aside0 (Below w.heap.size w w'))
         case atStart => exact ⟨(0), (by first | rfl | (simp; done) | (simp [*]; done) | (simp [wrap64]; done)), H', ⟨Nat.le_refl _⟩, ⟨by (with_reducible repeat (first | refine vN ?_ _ | refine vD ?_ | refine vA ?_ _)); exact BK254.out⟩, ⟨by repeat (first | (with_reducible first | exact HB.out | apply wA | apply wN | apply wD | refine wS ?_ GE254.out) | exact HB.out)⟩⟩
         case round =>
          clear H'
          try clear c1
          try clear c2
          try clear p2
          try clear q2
          try clear hx2
          try clear c6
          try clear p6
          try clear c7
          try clear c11
          try clear c13
          try clear c20
          try clear c21
          try clear c22
          try clear c23
          try clear c24
          try clear c25
          try clear c26
          try clear p27
          try clear q27
          try clear hx27
          try clear c61
          try clear c61b0
          try clear c62
          try clear c63
          try clear p64
          try clear c67
          try clear c72
          try clear c72b0
          try clear c73
          try clear c74
          try clear c77
          try clear c77b0
          try clear c77b1
          try clear c116
          try clear hcz117_0
          try clear hcz117_1
          try clear hcz117_2
          try clear hfz117_0
          try clear hfz117_1
          try clear hfz117_2
          try clear hx271_0
          try clear hx279_0
          try clear hx279_1
          try clear hx279_2
          try clear p271
          try clear p279
          try clear q271
          try clear q279
          obtain ⟨x14_3, rfl, HA, HK3, BK254, HB⟩ := hrel
          cases gk with
          | zero => exact absurd HA.out (by simp [targumlaw2_BrkTells.l2])
          | succ k3 =>
           have H := HA.out
           clear HA
           simp only [targumlaw2_BrkTells.l2] at H
           by_cases c126 : x14_3 ≤ (a0.size : Int)
           ·rw [if_pos c126] at H
            have c126b0 : decide (x14_3 ≤ (a0.size : Int)) = true := decide_eq_true c126
            clear c126
            replace H := Option.bind_eq_some_iff.mp H
            obtain ⟨t287, A1270, H⟩ := H
            replace H : ((targumref1_Break.f k3 11 a0 x14_3).bind fun t288 => (if t287 = t288 then ((brk_May.f k3 a0 x14_3).bind fun t289 => ((targumref1_May.f k3 a0 x14_3).bind fun t290 => (if t289 = t290 then (targumlaw2_BrkTells.l2 k3 a0 (wrap64 (x14_3 + 1))) else (some false)))) else (some false))) = some r := H
            have A127 := AM A1270
            clear A1270
            replace H := Option.bind_eq_some_iff.mp H
            obtain ⟨t288, A1280, H⟩ := H
            replace H : (if t287 = t288 then ((brk_May.f k3 a0 x14_3).bind fun t289 => ((targumref1_May.f k3 a0 x14_3).bind fun t290 => (if t289 = t290 then (targumlaw2_BrkTells.l2 k3 a0 (wrap64 (x14_3 + 1))) else (some false)))) else (some false)) = some r := H
            have A128 := AM A1280
            clear A1280
            by_cases c129 : t287 = t288
            ·rw [if_pos c129] at H
             have c129b0 : (t287 == t288) = true := beq_iff_eq.mpr c129
             have c129b1 : (t287 != t288) = false := bne_eq_false_iff_eq.mpr c129
             clear c129
             replace H := Option.bind_eq_some_iff.mp H
             obtain ⟨t289, A1300, H⟩ := H
             replace H : ((targumref1_May.f k3 a0 x14_3).bind fun t290 => (if t289 = t290 then (targumlaw2_BrkTells.l2 k3 a0 (wrap64 (x14_3 + 1))) else (some false))) = some r := H
             have A130 := AM A1300
             clear A1300
             replace H := Option.bind_eq_some_iff.mp H
             obtain ⟨t290, A1310, H⟩ := H
             replace H : (if t289 = t290 then (targumlaw2_BrkTells.l2 k3 a0 (wrap64 (x14_3 + 1))) else (some false)) = some r := H
             have A131 := AM A1310
             clear A1310
             by_cases c132 : t289 = t290
             ·rw [if_pos c132] at H
              have c132b0 : (t289 == t290) = true := beq_iff_eq.mpr c132
              have c132b1 : (t289 != t290) = false := bne_eq_false_iff_eq.mpr c132
              clear c132
              have H' := AM H
              clear H
              go_wp2_with (first | ((with_reducible refine gate_callee (f := 12) rfl ?_); refine goesL_ (some 129) rfl rfl Tryd.func12 (by kernel_rfl) rfl #[.int .i64 11, .string a0, .int .i64 x14_3] rfl (by (try simp only [qT, qC, qN]); first | done | rfl | (simp only [qD, qU]; rfl)) ?_; (with_reducible refine (brk_Break.calls k3 11 a0 x14_3 t287 _ A127.out).mono ?_); rintro e w' ⟨rfl, ⟨nd, rfl⟩⟩; refine ⟨_, rfl, ?_⟩) | ((with_reducible refine gate_callee (f := 15) rfl ?_); refine goesL_ (some 132) rfl rfl Tryd.func15 (by kernel_rfl) rfl #[.int .i64 11, .string a0, .int .i64 x14_3] rfl (by (try simp only [qT, qC, qN]); first | done | rfl | (simp only [qD, qU]; rfl)) ?_; (with_reducible refine (targumref1_Break.calls k3 11 a0 x14_3 t288 _ A128.out).mono ?_); rintro e w' ⟨rfl, ⟨nd, rfl⟩⟩; refine ⟨_, rfl, ?_⟩) | (go_at_call 17; (with_reducible refine (brk_May.calls k3 a0 x14_3 t289 _ ?side1 A130.out).mono ?_); (case side1 => exact Utf8Tabs_below HG.out (by repeat (first | (with_reducible first | exact HB.out | apply wA | apply wN | apply wD | refine wS ?_ GE254.out) | exact HB.out))); rintro e w133 ⟨rfl, hb⟩; have n0_ := AM (blk_below (g := gb254) (o := .cells #[.int .i64 a3_0, .int .i64 a3_1, .int .i64 a3_2] 27 (0, 0)) (by (with_reducible repeat (first | refine vN ?_ _ | refine vD ?_ | refine vA ?_ _)); exact BK254.out) hb); have n1_ := AM (below_step (by repeat (first | (with_reducible first | exact HB.out | apply wA | apply wN | apply wD | refine wS ?_ GE254.out) | exact HB.out)) hb); clear BK254; clear HB; have BK254 := n0_; have HB := n1_; clear n0_ n1_; (try clear hb); (try clear hb2); (try clear hk); (try clear hi)) | (go_at_call 18; (with_reducible refine (targumref1_May.calls k3 a0 x14_3 t290 _ A131.out).mono ?_); rintro e w' ⟨rfl, ⟨nd, rfl⟩⟩))
              go_roundg k3
              case measure => have := HJ9.out; have := HK2.out; have := HK3.out; omega
              case rel => exact ⟨(wrap64 (x14_3 + 1)), (by first | rfl | (simp; done) | (simp [*]; done) | (simp [wrap64]; done)), H', ⟨by have := HJ9.out; have := HK2.out; have := HK3.out; omega⟩, ⟨by (with_reducible repeat (first | refine vN ?_ _ | refine vD ?_ | refine vA ?_ _)); exact BK254.out⟩, ⟨by repeat (first | (with_reducible first | exact HB.out | apply wA | apply wN | apply wD | refine wS ?_ GE254.out) | exact HB.out)⟩⟩
             ·rw [if_neg c132] at H
              have c132b0 : (t289 == t290) = false := beq_eq_false_iff_ne.mpr c132
              have c132b1 : (t289 != t290) = true := bne_iff_ne.mpr c132
              obtain rfl := Option.some.inj H
              go_wp2_with (first | ((with_reducible refine gate_callee (f := 12) rfl ?_); refine goesL_ (some 129) rfl rfl Tryd.func12 (by kernel_rfl) rfl #[.int .i64 11, .string a0, .int .i64 x14_3] rfl (by (try simp only [qT, qC, qN]); first | done | rfl | (simp only [qD, qU]; rfl)) ?_; (with_reducible refine (brk_Break.calls k3 11 a0 x14_3 t287 _ A127.out).mono ?_); rintro e w' ⟨rfl, ⟨nd, rfl⟩⟩; refine ⟨_, rfl, ?_⟩) | ((with_reducible refine gate_callee (f := 15) rfl ?_); refine goesL_ (some 132) rfl rfl Tryd.func15 (by kernel_rfl) rfl #[.int .i64 11, .string a0, .int .i64 x14_3] rfl (by (try simp only [qT, qC, qN]); first | done | rfl | (simp only [qD, qU]; rfl)) ?_; (with_reducible refine (targumref1_Break.calls k3 11 a0 x14_3 t288 _ A128.out).mono ?_); rintro e w' ⟨rfl, ⟨nd, rfl⟩⟩; refine ⟨_, rfl, ?_⟩) | (go_at_call 17; (with_reducible refine (brk_May.calls k3 a0 x14_3 t289 _ ?side1 A130.out).mono ?_); (case side1 => exact Utf8Tabs_below HG.out (by repeat (first | (with_reducible first | exact HB.out | apply wA | apply wN | apply wD | refine wS ?_ GE254.out) | exact HB.out))); rintro e w134 ⟨rfl, hb⟩; have n0_ := AM (blk_below (g := gb254) (o := .cells #[.int .i64 a3_0, .int .i64 a3_1, .int .i64 a3_2] 27 (0, 0)) (by (with_reducible repeat (first | refine vN ?_ _ | refine vD ?_ | refine vA ?_ _)); exact BK254.out) hb); have n1_ := AM (below_step (by repeat (first | (with_reducible first | exact HB.out | apply wA | apply wN | apply wD | refine wS ?_ GE254.out) | exact HB.out)) hb); clear BK254; clear HB; have BK254 := n0_; have HB := n1_; clear n0_ n1_; (try clear hb); (try clear hb2); (try clear hk); (try clear hi)) | (go_at_call 18; (with_reducible refine (targumref1_May.calls k3 a0 x14_3 t290 _ A131.out).mono ?_); rintro e w' ⟨rfl, ⟨nd, rfl⟩⟩))
              go_ret
              exact ⟨by first | rfl | (simp [errW_none, errW_some] <;> rfl) | (simp [*, errW_none, errW_some] <;> rfl), by repeat (first | (with_reducible first | exact HB.out | apply wA | apply wN | apply wD | refine wS ?_ GE254.out) | exact HB.out)⟩
            ·rw [if_neg c129] at H
             have c129b0 : (t287 == t288) = false := beq_eq_false_iff_ne.mpr c129
             have c129b1 : (t287 != t288) = true := bne_iff_ne.mpr c129
             obtain rfl := Option.some.inj H
             go_wp2_with (first | ((with_reducible refine gate_callee (f := 12) rfl ?_); refine goesL_ (some 129) rfl rfl Tryd.func12 (by kernel_rfl) rfl #[.int .i64 11, .string a0, .int .i64 x14_3] rfl (by (try simp only [qT, qC, qN]); first | done | rfl | (simp only [qD, qU]; rfl)) ?_; (with_reducible refine (brk_Break.calls k3 11 a0 x14_3 t287 _ A127.out).mono ?_); rintro e w' ⟨rfl, ⟨nd, rfl⟩⟩; refine ⟨_, rfl, ?_⟩) | ((with_reducible refine gate_callee (f := 15) rfl ?_); refine goesL_ (some 132) rfl rfl Tryd.func15 (by kernel_rfl) rfl #[.int .i64 11, .string a0, .int .i64 x14_3] rfl (by (try simp only [qT, qC, qN]); first | done | rfl | (simp only [qD, qU]; rfl)) ?_; (with_reducible refine (targumref1_Break.calls k3 11 a0 x14_3 t288 _ A128.out).mono ?_); rintro e w' ⟨rfl, ⟨nd, rfl⟩⟩; refine ⟨_, rfl, ?_⟩))
             go_ret
             exact ⟨by first | rfl | (simp [errW_none, errW_some] <;> rfl) | (simp [*, errW_none, errW_some] <;> rfl), by repeat (first | (with_reducible first | exact HB.out | apply wA | apply wN | apply wD | refine wS ?_ GE254.out) | exact HB.out)⟩
           ·rw [if_neg c126] at H
            have c126b0 : decide (x14_3 ≤ (a0.size : Int)) = false := decide_eq_false c126
            clear c126
            obtain rfl := Option.some.inj H
            go_wp2
            go_ret
            exact ⟨by first | rfl | (simp [errW_none, errW_some] <;> rfl) | (simp [*, errW_none, errW_some] <;> rfl), by repeat (first | (with_reducible first | exact HB.out | apply wA | apply wN | apply wD | refine wS ?_ GE254.out) | exact HB.out)⟩
 ·replace c6 := Bool.eq_false_iff.mpr c6
  subst c6
  have H1 : (some false) = some r := by rw [if_neg (show ¬ (false = true) by decide)] at H; exact H
  clear H
  have H := H1
  clear H1
  obtain rfl := Option.some.inj H
  go_enter Tryd.func7, Tryd.ntmps7
  go_wp2_with (first | ((with_reducible refine gate_dst (N := 7) rfl ?_); refine box_event ?hg (N := 7) ?hd (cs := #[.int .i64 a3_0, .int .i64 a3_1, .int .i64 a3_2]) (t := 27) ?hr ?_; (case hd => rfl); (case hg => rfl); (case hr => first | (go_simp; done) | (go_simp; rfl)); intro gb254 hg w135 hbox hb; have n0_ := AM (below_step (by repeat (first | (with_reducible first | exact HB.out | apply wA | apply wN | apply wD) | exact HB.out)) hb); have n1_ := AM (hbox); have n2_ := AM ((by rw [hg]; exact (below_size (by repeat (first | (with_reducible first | exact HB.out | apply wA | apply wN | apply wD) | exact HB.out))) : w.heap.size ≤ gb254)); have n3_ := AM ((by rw [hg]; exact (below_size (by repeat (first | (with_reducible first | exact HB.out | apply wA | apply wN | apply wD) | exact HB.out))) : w.heap.size ≤ gb254)); clear HB; have HB := n0_; have BK254 := n1_; have GW254 := n2_; have GE254 := n3_; clear n0_ n1_ n2_ n3_; clear hb hbox hg) | ((with_reducible refine gate_callee (f := 9) rfl ?_); refine goesL_ (some 15) rfl rfl Tryd.func9 (by kernel_rfl) rfl #[] rfl (by (try simp only [qT, qC, qN]); first | done | rfl | (simp only [qD, qU]; rfl)) ?_; (with_reducible refine (targumlaw2_known.calls k  false _ ?side1 A5.out).mono ?_); (case side1 => exact Utf8Tabs_below HG.out (by repeat (first | (with_reducible first | exact HB.out | apply wA | apply wN | apply wD | refine wS ?_ GE254.out) | exact HB.out))); rintro e w136 ⟨rfl, hb⟩; refine ⟨_, rfl, ?_⟩; have n0_ := AM (blk_below (g := gb254) (o := .cells #[.int .i64 a3_0, .int .i64 a3_1, .int .i64 a3_2] 27 (0, 0)) (by (with_reducible repeat (first | refine vN ?_ _ | refine vD ?_ | refine vA ?_ _)); exact BK254.out) hb); have n1_ := AM (below_step (by repeat (first | (with_reducible first | exact HB.out | apply wA | apply wN | apply wD | refine wS ?_ GE254.out) | exact HB.out)) hb); clear BK254; clear HB; have BK254 := n0_; have HB := n1_; clear n0_ n1_; (try clear hb); (try clear hb2); (try clear hk); (try clear hi)))
  go_ret
  exact ⟨by first | rfl | (simp [errW_none, errW_some] <;> rfl) | (simp [*, errW_none, errW_some] <;> rfl), by repeat (first | (with_reducible first | exact HB.out | apply wA | apply wN | apply wD | refine wS ?_ GE254.out) | exact HB.out)⟩

/-- The pure statement of targumlaw2_BrkTells. -/
def targumlaw2_BrkTells.Pure : Prop := ∀ (a0 : ByteArray) (a1 : Int) (a2 : Int) (a3_0 : Int) (a3_1 : Int) (a3_2 : Int), a0.size ≤ 140737488351232 → (Lit.int .i64 a1).wf = true → (Lit.int .i64 a2).wf = true → (Lit.int .i64 a3_0).wf = true → (Lit.int .i64 a3_1).wf = true → (Lit.int .i64 a3_2).wf = true → ∃ k, targumlaw2_BrkTells.f k a0 a1 a2 a3_0 a3_1 a3_2 = some true

end Go.Proofs.YtkphlddgfmgogaaDoor.PB
