/- Written by this session's own program (xprint, made over the kit's print): Lean functions with the same answers as the Go functions, and the proofs of that. Not trusted: Lean checks it. -/
import Derived.Test.YtkijneohhilboaaGreatDoorPTx0
import Derived.Test.YtkijneohhilboaaGreatDoorXW
import Derived.Test.YtkijneohhilboaaGreatDoorXZ
namespace Go.Proofs.YtkijneohhilboaaGreatDoor.PT
open Go.Proofs.YtkijneohhilboaaGreatDoor.XZ
open Go.Proofs.YtkijneohhilboaaGreatDoor.XW Go.RowKit Go.Proofs.YtkijneohhilboaaGreatDoorW.PrintWords Go.Proofs.YtkijneohhilboaaGreatDoorW.PrintLast Go.Proofs.YtkijneohhilboaaGreatDoorW.PrintMore
attribute [local go_sem] max2_int min2_int max_two min_two max_three min_three max_four min_four   -- for this text's walks alone
set_option linter.unusedVariables false
set_option linter.unusedSimpArgs false

/-! ### targumref6_odd: function 22 -/
mutual
def targumref6_odd.j0 : Nat → Bool → Bool → ByteArray → Bool → Option (Int × Bool × ByteArray × ByteArray × Bool)
 | 0, _, _, _, _ => none
 | k + 1, x1, x2, x8, x9 => if x9 = true then (some (1, x1, (⟨#[]⟩ : ByteArray), (⟨#[]⟩ : ByteArray), true)) else (if x8.toList = ([46, 110, 97, 110] : List UInt8) then (targumref6_odd.j1 k x2 (x8.toList == ([46, 110, 97, 110] : List UInt8))) else (if x8.toList = ([46, 78, 97, 78] : List UInt8) then (targumref6_odd.j1 k x2 (x8.toList == ([46, 78, 97, 78] : List UInt8))) else (targumref6_odd.j1 k x2 (x8.toList == ([46, 78, 65, 78] : List UInt8)))))
def targumref6_odd.j1 : Nat → Bool → Bool → Option (Int × Bool × ByteArray × ByteArray × Bool)
 | 0, _, _ => none
 | k + 1, x2, x15 => if x15 = true then (if x2 = true then (some (0, false, (⟨#[]⟩ : ByteArray), (⟨#[]⟩ : ByteArray), false)) else (some (2, false, (⟨#[]⟩ : ByteArray), (⟨#[]⟩ : ByteArray), true))) else (some (0, false, (⟨#[]⟩ : ByteArray), (⟨#[]⟩ : ByteArray), false))
end
def targumref6_odd.f (k : Nat) (a0 : ByteArray) (a1 : Bool) (a2 : Bool) : Option (Int × Bool × ByteArray × ByteArray × Bool) := if a0.toList = ([46, 105, 110, 102] : List UInt8) then (targumref6_odd.j0 k a1 a2 a0 (a0.toList == ([46, 105, 110, 102] : List UInt8))) else (if a0.toList = ([46, 73, 110, 102] : List UInt8) then (targumref6_odd.j0 k a1 a2 a0 (a0.toList == ([46, 73, 110, 102] : List UInt8))) else (targumref6_odd.j0 k a1 a2 a0 (a0.toList == ([46, 73, 78, 70] : List UInt8))))
theorem targumref6_odd.mono_l : ∀ k, (∀ y0 y1 y2 y3, LeO (targumref6_odd.j0 k y0 y1 y2 y3) (targumref6_odd.j0 (k + 1) y0 y1 y2 y3)) ∧ (∀ y0 y1, LeO (targumref6_odd.j1 k y0 y1) (targumref6_odd.j1 (k + 1) y0 y1))
 | 0 => ⟨fun _ _ _ _ r h => by simp [targumref6_odd.j0] at h, fun _ _ r h => by simp [targumref6_odd.j1] at h⟩
 | k + 1 => by
  obtain ⟨ih0, ih1⟩ := targumref6_odd.mono_l k
  refine ⟨?_, ?_⟩
  ·intro y0 y1 y2 y3
   unfold targumref6_odd.j0
   repeat' first | (with_reducible exact ih0 _ _ _ _) | (with_reducible exact ih1 _ _) | (with_reducible exact LeO.refl _) | (with_reducible exact LeO.none _) | (with_reducible refine LeO.ite ?_ ?_) | (with_reducible refine LeO.bind ?_ (fun _ => ?_)) | exact ih0 _ _ _ _ | exact ih1 _ _ | exact LeO.none _ | refine LeO.ite ?_ ?_ | refine LeO.bind ?_ (fun _ => ?_)
  ·intro y0 y1
   unfold targumref6_odd.j1
   repeat' first | (with_reducible exact ih0 _ _ _ _) | (with_reducible exact ih1 _ _) | (with_reducible exact LeO.refl _) | (with_reducible exact LeO.none _) | (with_reducible refine LeO.ite ?_ ?_) | (with_reducible refine LeO.bind ?_ (fun _ => ?_)) | exact ih0 _ _ _ _ | exact ih1 _ _ | exact LeO.none _ | refine LeO.ite ?_ ?_ | refine LeO.bind ?_ (fun _ => ?_)
theorem targumref6_odd.mono : ∀ a0 a1 a2 k, LeO (targumref6_odd.f k a0 a1 a2) (targumref6_odd.f (k + 1) a0 a1 a2) := by
 intro a0 a1 a2 k
 obtain ⟨ih0, ih1⟩ := targumref6_odd.mono_l k
 unfold targumref6_odd.f
 repeat' first | (with_reducible exact ih0 _ _ _ _) | (with_reducible exact ih1 _ _) | (with_reducible exact LeO.refl _) | (with_reducible exact LeO.none _) | (with_reducible refine LeO.ite ?_ ?_) | (with_reducible refine LeO.bind ?_ (fun _ => ?_)) | exact ih0 _ _ _ _ | exact ih1 _ _ | exact LeO.none _ | refine LeO.ite ?_ ?_ | refine LeO.bind ?_ (fun _ => ?_)
set_option maxHeartbeats 8000000 in
set_option maxRecDepth 100000 in
theorem targumref6_odd.calls (k : Nat) (a0 : ByteArray) (a1 : Bool) (a2 : Bool) (r1 : Int) (r2 : Bool) (r3 : ByteArray) (r4 : ByteArray) (r5 : Bool) (w : World) (h : targumref6_odd.f k a0 a1 a2 = some (r1, r2, r3, r4, r5)) :
  Calls Tryz.prog 22 #[.string a0, .bool a1, .bool a2] w fun e w' => e = .returned (.tuple #[.agg #[.int .i64 r1, .bool r2, .string r3, .string r4], .bool r5]) ∧ Below w.heap.size w w' := by
 have hu26 := Tryz.underlying26
 have HB := AM (Below.refl w.heap.size w)
 have H : (if a0.toList = ([46, 105, 110, 102] : List UInt8) then (targumref6_odd.j0 k a1 a2 a0 (a0.toList == ([46, 105, 110, 102] : List UInt8))) else (if a0.toList = ([46, 73, 110, 102] : List UInt8) then (targumref6_odd.j0 k a1 a2 a0 (a0.toList == ([46, 73, 110, 102] : List UInt8))) else (targumref6_odd.j0 k a1 a2 a0 (a0.toList == ([46, 73, 78, 70] : List UInt8))))) = some (r1, r2, r3, r4, r5) := h
 clear h
 have HC4 := AM H
 clear H
 go_enter Tryz.func22, Tryz.ntmps22
 go_upto_if 9 with (first | ((with_reducible refine gate_dst (N := 6) rfl ?_); refine box_event ?hg (N := 6) ?hd (cs := #[.int .i64 0, .bool false, .string (⟨#[]⟩ : ByteArray), .string (⟨#[]⟩ : ByteArray)]) (t := 26) ?hr ?_; (case hd => rfl); (case hg => rfl); (case hr => first | (go_simp; done) | (go_simp; rfl)); intro gb260 hg w5 hbox hb; have GW260 := gq (w := w) hg; have GE260 := GW260; replace HB := AM (below_step bl hb); have BK260 := AM (hbox); clear hb hbox hg))
 (try simp only [Act.put, qI, qz, qs])
 go_cut [9] (fun v9 wc => ∃ (kq : Nat) (x9_3 : Bool), v9 = .bool x9_3 ∧ Aside0 (targumref6_odd.j0 kq a1 a2 a0 x9_3 = some (r1, r2, r3, r4, r5)) ∧ Aside0 (kq ≤ k) ∧ Aside0 (wc.heap[gb260]? = some (.cells #[.int .i64 0, .bool false, .string (⟨#[]⟩ : ByteArray), .string (⟨#[]⟩ : ByteArray)] 26 (0, 0))) ∧ Aside0 (Below w.heap.size w wc))
 case first =>
  have H := HC4.out
  clear HC4
  by_cases c6 : a0.toList = ([46, 105, 110, 102] : List UInt8)
  ·rw [if_pos c6] at H
   have c6b0 : (a0.toList == ([46, 105, 110, 102] : List UInt8)) = true := beq_iff_eq.mpr c6
   have c6b1 : (a0.toList != ([46, 105, 110, 102] : List UInt8)) = false := bne_eq_false_iff_eq.mpr c6
   clear c6
   (first | rw [c6b0] | (simp only [qi, qj]; rw [c6b0]) | skip)
   have H' := AM H
   clear H
   go_wp2
   go_meet
   case rel => exact ⟨_, ((a0.toList == ([46, 105, 110, 102] : List UInt8))), rq, H', ⟨by first | omega | exact Nat.le_refl _⟩, ⟨by (with_reducible repeat (first | refine vN ?_ _ | refine vD ?_ | refine vA ?_ _)); exact BK260.out⟩, ⟨bl⟩⟩
  ·rw [if_neg c6] at H
   have c6b0 : (a0.toList == ([46, 105, 110, 102] : List UInt8)) = false := beq_eq_false_iff_ne.mpr c6
   have c6b1 : (a0.toList != ([46, 105, 110, 102] : List UInt8)) = true := bne_iff_ne.mpr c6
   (first | rw [c6b0] | (simp only [qi, qj]; rw [c6b0]) | skip)
   by_cases c7 : a0.toList = ([46, 73, 110, 102] : List UInt8)
   ·rw [if_pos c7] at H
    have c7b0 : (a0.toList == ([46, 73, 110, 102] : List UInt8)) = true := beq_iff_eq.mpr c7; have c7b1 : (a0.toList != ([46, 73, 110, 102] : List UInt8)) = false := bne_eq_false_iff_eq.mpr c7; clear c7; have H' := AM H; clear H; go_wp2; go_meet
    case rel => exact ⟨_, ((a0.toList == ([46, 73, 110, 102] : List UInt8))), rq, H', ⟨by first | omega | exact Nat.le_refl _⟩, ⟨by (with_reducible repeat (first | refine vN ?_ _ | refine vD ?_ | refine vA ?_ _)); exact BK260.out⟩, ⟨bl⟩⟩
   ·rw [if_neg c7] at H
    have c7b0 : (a0.toList == ([46, 73, 110, 102] : List UInt8)) = false := beq_eq_false_iff_ne.mpr c7; have c7b1 : (a0.toList != ([46, 73, 110, 102] : List UInt8)) = true := bne_iff_ne.mpr c7; have H' := AM H; clear H; go_wp2; go_meet
    case rel => exact ⟨_, ((a0.toList == ([46, 73, 78, 70] : List UInt8))), rq, H', ⟨by first | omega | exact Nat.le_refl _⟩, ⟨by (with_reducible repeat (first | refine vN ?_ _ | refine vD ?_ | refine vA ?_ _)); exact BK260.out⟩, ⟨bl⟩⟩
 case rest =>
  clear HC4
  obtain ⟨kq, x9_3, rfl, HA, HJ3, BK260, HB⟩ := hcut
  cases kq with
  | zero => exact absurd HA.out (by simp [targumref6_odd.j0])
  | succ kj3 =>
   have H := HA.out
   clear HA
   simp only [targumref6_odd.j0] at H
   by_cases c8 : x9_3 = true
   ·subst c8
    have H1 : (some (1, a1, (⟨#[]⟩ : ByteArray), (⟨#[]⟩ : ByteArray), true)) = some (r1, r2, r3, r4, r5) := by rw [if_pos rfl] at H; exact H
    clear H; have H := H1; clear H1; simp only [Option.some.injEq, Prod.mk.injEq] at H; obtain ⟨rfl, rfl, rfl, rfl, rfl⟩ := H; obtain ⟨hcz9_0, hcz9_1, hcz9_2, hcz9_3, hfz9_0, hfz9_1, hfz9_2, hfz9_3⟩ := cz4 BK260.out; go_wp2; refine bodyPost_ret (results_ct rfl _ _ gb260 26 #[.int .i64 1, .bool a1, .string (⟨#[]⟩ : ByteArray), .string (⟨#[]⟩ : ByteArray)] (0, 0) _ rfl bk Tryz.underlying26 rfl (by kernel_rfl)) rfl ?_
    exact ⟨ew, bl⟩
   ·replace c8 := Bool.eq_false_iff.mpr c8
    subst c8; have H1 : (if a0.toList = ([46, 110, 97, 110] : List UInt8) then (targumref6_odd.j1 kj3 a2 (a0.toList == ([46, 110, 97, 110] : List UInt8))) else (if a0.toList = ([46, 78, 97, 78] : List UInt8) then (targumref6_odd.j1 kj3 a2 (a0.toList == ([46, 78, 97, 78] : List UInt8))) else (targumref6_odd.j1 kj3 a2 (a0.toList == ([46, 78, 65, 78] : List UInt8))))) = some (r1, r2, r3, r4, r5) := by rw [if_neg (show ¬ (false = true) by decide)] at H; exact H
    clear H; have H := H1; clear H1; have HC10 := AM H; clear H; go_upto_if 15 with (fail)
    go_cut [15] (fun v15 wc => ∃ (kq : Nat) (x15_9 : Bool), v15 = .bool x15_9 ∧ Aside0 (targumref6_odd.j1 kq a2 x15_9 = some (r1, r2, r3, r4, r5)) ∧ Aside0 (kq ≤ kj3) ∧ Aside0 (wc.heap[gb260]? = some (.cells #[.int .i64 0, .bool false, .string (⟨#[]⟩ : ByteArray), .string (⟨#[]⟩ : ByteArray)] 26 (0, 0))) ∧ Aside0 (Below w.heap.size w wc))
    case first =>
     have H := HC10.out; clear HC10; by_cases c11 : a0.toList = ([46, 110, 97, 110] : List UInt8)
     ·rw [if_pos c11] at H
      have c11b0 : (a0.toList == ([46, 110, 97, 110] : List UInt8)) = true := beq_iff_eq.mpr c11; have c11b1 : (a0.toList != ([46, 110, 97, 110] : List UInt8)) = false := bne_eq_false_iff_eq.mpr c11; clear c11; (first | rw [c11b0] | (simp only [qi, qj]; rw [c11b0]) | skip); have H' := AM H; clear H; go_wp2; go_meet
      case rel => exact ⟨_, ((a0.toList == ([46, 110, 97, 110] : List UInt8))), rq, H', ⟨by have := HJ3.out; first | omega | exact Nat.le_refl _⟩, ⟨by (with_reducible repeat (first | refine vN ?_ _ | refine vD ?_ | refine vA ?_ _)); exact BK260.out⟩, ⟨bl⟩⟩
     ·rw [if_neg c11] at H
      have c11b0 : (a0.toList == ([46, 110, 97, 110] : List UInt8)) = false := beq_eq_false_iff_ne.mpr c11; have c11b1 : (a0.toList != ([46, 110, 97, 110] : List UInt8)) = true := bne_iff_ne.mpr c11; (first | rw [c11b0] | (simp only [qi, qj]; rw [c11b0]) | skip); by_cases c12 : a0.toList = ([46, 78, 97, 78] : List UInt8)
      ·rw [if_pos c12] at H
       have c12b0 : (a0.toList == ([46, 78, 97, 78] : List UInt8)) = true := beq_iff_eq.mpr c12; have c12b1 : (a0.toList != ([46, 78, 97, 78] : List UInt8)) = false := bne_eq_false_iff_eq.mpr c12; clear c12; have H' := AM H; clear H; go_wp2; go_meet
       case rel => exact ⟨_, ((a0.toList == ([46, 78, 97, 78] : List UInt8))), rq, H', ⟨by have := HJ3.out; first | omega | exact Nat.le_refl _⟩, ⟨by (with_reducible repeat (first | refine vN ?_ _ | refine vD ?_ | refine vA ?_ _)); exact BK260.out⟩, ⟨bl⟩⟩
      ·rw [if_neg c12] at H
       have c12b0 : (a0.toList == ([46, 78, 97, 78] : List UInt8)) = false := beq_eq_false_iff_ne.mpr c12; have c12b1 : (a0.toList != ([46, 78, 97, 78] : List UInt8)) = true := bne_iff_ne.mpr c12; have H' := AM H; clear H; go_wp2; go_meet
       case rel => exact ⟨_, ((a0.toList == ([46, 78, 65, 78] : List UInt8))), rq, H', ⟨by have := HJ3.out; first | omega | exact Nat.le_refl _⟩, ⟨by (with_reducible repeat (first | refine vN ?_ _ | refine vD ?_ | refine vA ?_ _)); exact BK260.out⟩, ⟨bl⟩⟩
    case rest =>
     clear HC10; try clear c8
     obtain ⟨kq, x15_9, rfl, HA, HJ9, BK260, HB⟩ := hcut; cases kq with
     | zero => exact absurd HA.out (by simp [targumref6_odd.j1])
     | succ kj9 =>
      have H := HA.out; clear HA; simp only [targumref6_odd.j1] at H; by_cases c13 : x15_9 = true
      ·subst c13
       have H1 : (if a2 = true then (some (0, false, (⟨#[]⟩ : ByteArray), (⟨#[]⟩ : ByteArray), false)) else (some (2, false, (⟨#[]⟩ : ByteArray), (⟨#[]⟩ : ByteArray), true))) = some (r1, r2, r3, r4, r5) := by rw [if_pos rfl] at H; exact H
       clear H; have H := H1; clear H1; by_cases c14 : a2 = true
       ·subst c14
        have H1 : (some (0, false, (⟨#[]⟩ : ByteArray), (⟨#[]⟩ : ByteArray), false)) = some (r1, r2, r3, r4, r5) := by rw [if_pos rfl] at H; exact H
        clear H; have H := H1; clear H1; simp only [Option.some.injEq, Prod.mk.injEq] at H; obtain ⟨rfl, rfl, rfl, rfl, rfl⟩ := H; obtain ⟨hcz15_0, hcz15_1, hcz15_2, hcz15_3, hfz15_0, hfz15_1, hfz15_2, hfz15_3⟩ := cz4 BK260.out; go_wp2; refine bodyPost_ret (results_ct rfl _ _ gb260 26 #[.int .i64 0, .bool false, .string (⟨#[]⟩ : ByteArray), .string (⟨#[]⟩ : ByteArray)] (0, 0) _ rfl bk Tryz.underlying26 rfl (by kernel_rfl)) rfl ?_
        exact ⟨ew, bl⟩
       ·replace c14 := Bool.eq_false_iff.mpr c14
        subst c14; have H1 : (some (2, false, (⟨#[]⟩ : ByteArray), (⟨#[]⟩ : ByteArray), true)) = some (r1, r2, r3, r4, r5) := by rw [if_neg (show ¬ (false = true) by decide)] at H; exact H
        clear H; have H := H1; clear H1; simp only [Option.some.injEq, Prod.mk.injEq] at H; obtain ⟨rfl, rfl, rfl, rfl, rfl⟩ := H; obtain ⟨hcz16_0, hcz16_1, hcz16_2, hcz16_3, hfz16_0, hfz16_1, hfz16_2, hfz16_3⟩ := cz4 BK260.out; go_wp2; refine bodyPost_ret (results_ct rfl _ _ gb260 26 #[.int .i64 2, .bool false, .string (⟨#[]⟩ : ByteArray), .string (⟨#[]⟩ : ByteArray)] (0, 0) _ rfl bk Tryz.underlying26 rfl (by kernel_rfl)) rfl ?_
        exact ⟨ew, bl⟩
      ·replace c13 := Bool.eq_false_iff.mpr c13
       subst c13; have H1 : (some (0, false, (⟨#[]⟩ : ByteArray), (⟨#[]⟩ : ByteArray), false)) = some (r1, r2, r3, r4, r5) := by rw [if_neg (show ¬ (false = true) by decide)] at H; exact H
       clear H; have H := H1; clear H1; simp only [Option.some.injEq, Prod.mk.injEq] at H; obtain ⟨rfl, rfl, rfl, rfl, rfl⟩ := H; obtain ⟨hcz17_0, hcz17_1, hcz17_2, hcz17_3, hfz17_0, hfz17_1, hfz17_2, hfz17_3⟩ := cz4 BK260.out; go_wp2; refine bodyPost_ret (results_ct rfl _ _ gb260 26 #[.int .i64 0, .bool false, .string (⟨#[]⟩ : ByteArray), .string (⟨#[]⟩ : ByteArray)] (0, 0) _ rfl bk Tryz.underlying26 rfl (by kernel_rfl)) rfl ?_
       exact ⟨ew, bl⟩

/-! ### targumref6_find: function 23 -/
def targumref6_find.l0 : Nat → ByteArray → Int → Int → Option (Int)
 | 0, _, _, _ => none
 | k + 1, x0, x1, x5 => if x5 < (x0.size : Int) then (if 0 ≤ x5 then (if (bt x0 x5) = x1 then (some x5) else (targumref6_find.l0 k x0 x1 (wrap64 (x5 + 1)))) else (none)) else (some (-1))
def targumref6_find.f (k : Nat) (a0 : ByteArray) (a1 : Int) : Option (Int) := targumref6_find.l0 k a0 a1 0
theorem targumref6_find.mono_l : ∀ k, (∀ y0 y1 y2, LeO (targumref6_find.l0 k y0 y1 y2) (targumref6_find.l0 (k + 1) y0 y1 y2))
 | 0 => fun _ _ _ r h => by simp [targumref6_find.l0] at h
 | k + 1 => by
  have ih0 := targumref6_find.mono_l k
  ·intro y0 y1 y2
   unfold targumref6_find.l0
   repeat' first | (with_reducible exact ih0 _ _ _) | (with_reducible exact LeO.refl _) | (with_reducible exact LeO.none _) | (with_reducible refine LeO.ite ?_ ?_) | (with_reducible refine LeO.bind ?_ (fun _ => ?_)) | exact ih0 _ _ _ | exact LeO.none _ | refine LeO.ite ?_ ?_ | refine LeO.bind ?_ (fun _ => ?_)
theorem targumref6_find.mono : ∀ a0 a1 k, LeO (targumref6_find.f k a0 a1) (targumref6_find.f (k + 1) a0 a1) := by
 intro a0 a1 k
 have ih0 := targumref6_find.mono_l k
 unfold targumref6_find.f
 repeat' first | (with_reducible exact ih0 _ _ _) | (with_reducible exact LeO.refl _) | (with_reducible exact LeO.none _) | (with_reducible refine LeO.ite ?_ ?_) | (with_reducible refine LeO.bind ?_ (fun _ => ?_)) | exact ih0 _ _ _ | exact LeO.none _ | refine LeO.ite ?_ ?_ | refine LeO.bind ?_ (fun _ => ?_)
set_option maxHeartbeats 8000000 in
set_option maxRecDepth 100000 in
theorem targumref6_find.calls (k : Nat) (a0 : ByteArray) (a1 : Int) (r : Int) (w : World) (h : targumref6_find.f k a0 a1 = some r) :
  Calls Tryz.prog 23 #[.string a0, .int .u8 a1] w fun e w' => e = .returned (.int .i64 r) ∧ Drawn0 w w' := by
 have H : (targumref6_find.l0 k a0 a1 0) = some r := h
 clear h
 have H' := AM H
 clear H
 go_enter Tryz.func23, Tryz.ntmps23
 go_wp2
 go_loopg [5] k (fun kq v5 w' => ∃ (x5_1 : Int), v5 = .int .i64 x5_1 ∧ Aside0 (targumref6_find.l0 kq a0 a1 x5_1 = some r) ∧ Aside0 (kq ≤ k) ∧ Drawn0 w w')
 case atStart => exact ⟨(0), rq, H', ⟨Nat.le_refl _⟩, by repeat (first | exact Drawn0.refl _ | apply Drawn0.step)⟩
 case round =>
  clear H'
  obtain ⟨x5_1, rfl, HA, HK1, ⟨m1, rfl⟩⟩ := hrel
  cases gk with
  | zero => exact absurd HA.out (by simp [targumref6_find.l0])
  | succ k1 =>
   have H := HA.out
   clear HA
   simp only [targumref6_find.l0] at H
   by_cases c3 : x5_1 < (a0.size : Int)
   ·rw [if_pos c3] at H
    have c3b0 : decide (x5_1 < (a0.size : Int)) = true := decide_eq_true c3; clear c3; by_cases c4 : 0 ≤ x5_1
    ·rw [if_pos c4] at H
     have c4b0 : decide (0 ≤ x5_1) = true := decide_eq_true c4; clear c4; by_cases c6 : (bt a0 x5_1) = a1
     ·rw [if_pos c6] at H
      have c6b0 : ((bt a0 x5_1) == a1) = true := beq_iff_eq.mpr c6; have c6b1 : ((bt a0 x5_1) != a1) = false := bne_eq_false_iff_eq.mpr c6; clear c6; obtain rfl := Option.some.inj H; have p5 : 0 ≤ (x5_1 : Int) := od; have q5 : x5_1 < (a0.size : Int) := od; have hx5 := bt_at a0 x5_1; replace p5 := eq_true p5; replace q5 := eq_true q5; go_wp2; go_ret; exact ⟨rq, by repeat (first | exact Drawn0.refl _ | apply Drawn0.step)⟩
     ·rw [if_neg c6] at H
      have c6b0 : ((bt a0 x5_1) == a1) = false := beq_eq_false_iff_ne.mpr c6; have c6b1 : ((bt a0 x5_1) != a1) = true := bne_iff_ne.mpr c6; have H' := AM H; clear H; have p5 : 0 ≤ (x5_1 : Int) := od; have q5 : x5_1 < (a0.size : Int) := od; have hx5 := bt_at a0 x5_1; replace p5 := eq_true p5; replace q5 := eq_true q5; go_wp2; go_roundg k1
      case measure => have := HK1.out; omega
      case rel => exact ⟨(wrap64 (x5_1 + 1)), rq, H', ⟨by have := HK1.out; omega⟩, by repeat (first | exact Drawn0.refl _ | apply Drawn0.step)⟩
    ·rw [if_neg c4] at H
     exact absurd H (by simp)
   ·rw [if_neg c3] at H
    have c3b0 : decide (x5_1 < (a0.size : Int)) = false := decide_eq_false c3; clear c3; obtain rfl := Option.some.inj H; go_wp2; go_ret; exact ⟨rq, by repeat (first | exact Drawn0.refl _ | apply Drawn0.step)⟩

/-! ### targumref4_Value: function 46 -/
mutual
def targumref4_Value.j0 : Nat → Int → Bool → Option (Int)
 | 0, _, _ => none
 | k + 1, x0, x3 => if x3 = true then (some ((x0 - 48) % 256)) else (if x0 ≥ 97 then (targumref4_Value.j1 k x0 (decide (x0 ≤ 102))) else (targumref4_Value.j1 k x0 false))
def targumref4_Value.j1 : Nat → Int → Bool → Option (Int)
 | 0, _, _ => none
 | k + 1, x0, x13 => if x13 = true then (some (((x0 - 97) % 256) + 10)) else (if x0 ≥ 65 then (if x0 ≤ 70 then (some (((x0 - 65) % 256) + 10)) else (some 99)) else (some 99))
end
def targumref4_Value.f (k : Nat) (a0 : Int) : Option (Int) := if a0 ≥ 48 then (targumref4_Value.j0 k a0 (decide (a0 ≤ 57))) else (targumref4_Value.j0 k a0 false)
theorem targumref4_Value.mono_l : ∀ k, (∀ y0 y1, LeO (targumref4_Value.j0 k y0 y1) (targumref4_Value.j0 (k + 1) y0 y1)) ∧ (∀ y0 y1, LeO (targumref4_Value.j1 k y0 y1) (targumref4_Value.j1 (k + 1) y0 y1))
 | 0 => ⟨fun _ _ r h => by simp [targumref4_Value.j0] at h, fun _ _ r h => by simp [targumref4_Value.j1] at h⟩
 | k + 1 => by
  obtain ⟨ih0, ih1⟩ := targumref4_Value.mono_l k
  refine ⟨?_, ?_⟩
  ·intro y0 y1
   unfold targumref4_Value.j0
   repeat' first | (with_reducible exact ih0 _ _) | (with_reducible exact ih1 _ _) | (with_reducible exact LeO.refl _) | (with_reducible exact LeO.none _) | (with_reducible refine LeO.ite ?_ ?_) | (with_reducible refine LeO.bind ?_ (fun _ => ?_)) | exact ih0 _ _ | exact ih1 _ _ | exact LeO.none _ | refine LeO.ite ?_ ?_ | refine LeO.bind ?_ (fun _ => ?_)
  ·intro y0 y1
   unfold targumref4_Value.j1
   repeat' first | (with_reducible exact ih0 _ _) | (with_reducible exact ih1 _ _) | (with_reducible exact LeO.refl _) | (with_reducible exact LeO.none _) | (with_reducible refine LeO.ite ?_ ?_) | (with_reducible refine LeO.bind ?_ (fun _ => ?_)) | exact ih0 _ _ | exact ih1 _ _ | exact LeO.none _ | refine LeO.ite ?_ ?_ | refine LeO.bind ?_ (fun _ => ?_)
theorem targumref4_Value.mono : ∀ a0 k, LeO (targumref4_Value.f k a0) (targumref4_Value.f (k + 1) a0) := by
 intro a0 k
 obtain ⟨ih0, ih1⟩ := targumref4_Value.mono_l k
 unfold targumref4_Value.f
 repeat' first | (with_reducible exact ih0 _ _) | (with_reducible exact ih1 _ _) | (with_reducible exact LeO.refl _) | (with_reducible exact LeO.none _) | (with_reducible refine LeO.ite ?_ ?_) | (with_reducible refine LeO.bind ?_ (fun _ => ?_)) | exact ih0 _ _ | exact ih1 _ _ | exact LeO.none _ | refine LeO.ite ?_ ?_ | refine LeO.bind ?_ (fun _ => ?_)
set_option maxHeartbeats 8000000 in
set_option maxRecDepth 100000 in
theorem targumref4_Value.calls (k : Nat) (a0 : Int) (r : Int) (w : World) (h : targumref4_Value.f k a0 = some r) :
  Calls Tryz.prog 46 #[.int .u8 a0] w fun e w' => e = .returned (.int .i64 r) ∧ Drawn0 w w' := by
 have H : (if a0 ≥ 48 then (targumref4_Value.j0 k a0 (decide (a0 ≤ 57))) else (targumref4_Value.j0 k a0 false)) = some r := h
 clear h
 have HC2 := AM H
 clear H
 go_enter Tryz.func46, Tryz.ntmps46
 go_upto_region 1 with (fail)
 go_cut [3] (fun v3 wc => ∃ (kq : Nat) (x3_1 : Bool), v3 = .bool x3_1 ∧ Aside0 (targumref4_Value.j0 kq a0 x3_1 = some r) ∧ Aside0 (kq ≤ k) ∧ Drawn0 w wc)
 case first =>
  have H := HC2.out
  clear HC2
  by_cases c3 : a0 ≥ 48
  ·rw [if_pos c3] at H
   have c3b0 : decide (48 ≤ a0) = true := decide_eq_true c3
   clear c3
   (first | rw [c3b0] | (simp only [qi, qj]; rw [c3b0]) | skip)
   have H' := AM H
   clear H
   go_wp2
   go_meet
   case rel => exact ⟨_, (decide (a0 ≤ 57)), rq, H', ⟨by first | omega | exact Nat.le_refl _⟩, by repeat (first | exact Drawn0.refl _ | apply Drawn0.step)⟩
  ·rw [if_neg c3] at H
   have c3b0 : decide (48 ≤ a0) = false := decide_eq_false c3
   clear c3
   (first | rw [c3b0] | (simp only [qi, qj]; rw [c3b0]) | skip)
   have H' := AM H
   clear H
   go_wp2
   go_meet
   case rel => exact ⟨_, (false), rq, H', ⟨by first | omega | exact Nat.le_refl _⟩, by repeat (first | exact Drawn0.refl _ | apply Drawn0.step)⟩
 case rest =>
  clear HC2
  obtain ⟨kq, x3_1, rfl, HA, HJ1, ⟨mc1, rfl⟩⟩ := hcut
  cases kq with
  | zero => exact absurd HA.out (by simp [targumref4_Value.j0])
  | succ kj1 =>
   have H := HA.out
   clear HA
   simp only [targumref4_Value.j0] at H
   by_cases c4 : x3_1 = true
   ·subst c4
    have H1 : (some ((a0 - 48) % 256)) = some r := by rw [if_pos rfl] at H; exact H
    clear H; have H := H1; clear H1; obtain rfl := Option.some.inj H; go_wp2; go_ret; exact ⟨rq, by repeat (first | exact Drawn0.refl _ | apply Drawn0.step)⟩
   ·replace c4 := Bool.eq_false_iff.mpr c4
    subst c4; have H1 : (if a0 ≥ 97 then (targumref4_Value.j1 kj1 a0 (decide (a0 ≤ 102))) else (targumref4_Value.j1 kj1 a0 false)) = some r := by rw [if_neg (show ¬ (false = true) by decide)] at H; exact H
    clear H; have H := H1; clear H1; have HC5 := AM H; clear H; go_upto_region 3 with (fail)
    go_cut [13] (fun v13 wc => ∃ (kq : Nat) (x13_4 : Bool), v13 = .bool x13_4 ∧ Aside0 (targumref4_Value.j1 kq a0 x13_4 = some r) ∧ Aside0 (kq ≤ kj1) ∧ Drawn0 w wc)
    case first =>
     have H := HC5.out; clear HC5; by_cases c6 : a0 ≥ 97
     ·rw [if_pos c6] at H
      have c6b0 : decide (97 ≤ a0) = true := decide_eq_true c6; clear c6; (first | rw [c6b0] | (simp only [qi, qj]; rw [c6b0]) | skip); have H' := AM H; clear H; go_wp2; go_meet
      case rel => exact ⟨_, (decide (a0 ≤ 102)), rq, H', ⟨by have := HJ1.out; first | omega | exact Nat.le_refl _⟩, by repeat (first | exact Drawn0.refl _ | apply Drawn0.step)⟩
     ·rw [if_neg c6] at H
      have c6b0 : decide (97 ≤ a0) = false := decide_eq_false c6; clear c6; (first | rw [c6b0] | (simp only [qi, qj]; rw [c6b0]) | skip); have H' := AM H; clear H; go_wp2; go_meet
      case rel => exact ⟨_, (false), rq, H', ⟨by have := HJ1.out; first | omega | exact Nat.le_refl _⟩, by repeat (first | exact Drawn0.refl _ | apply Drawn0.step)⟩
    case rest =>
     clear HC5; try clear c4
     obtain ⟨kq, x13_4, rfl, HA, HJ4, ⟨mc4, rfl⟩⟩ := hcut; cases kq with
     | zero => exact absurd HA.out (by simp [targumref4_Value.j1])
     | succ kj4 =>
      have H := HA.out; clear HA; simp only [targumref4_Value.j1] at H; by_cases c7 : x13_4 = true
      ·subst c7
       have H1 : (some (((a0 - 97) % 256) + 10)) = some r := by rw [if_pos rfl] at H; exact H
       clear H; have H := H1; clear H1; obtain rfl := Option.some.inj H; go_wp2; go_ret; exact ⟨rq, by repeat (first | exact Drawn0.refl _ | apply Drawn0.step)⟩
      ·replace c7 := Bool.eq_false_iff.mpr c7
       subst c7; have H1 : (if a0 ≥ 65 then (if a0 ≤ 70 then (some (((a0 - 65) % 256) + 10)) else (some 99)) else (some 99)) = some r := by rw [if_neg (show ¬ (false = true) by decide)] at H; exact H
       clear H; have H := H1; clear H1; by_cases c8 : a0 ≥ 65
       ·rw [if_pos c8] at H
        have c8b0 : decide (65 ≤ a0) = true := decide_eq_true c8; clear c8; by_cases c9 : a0 ≤ 70
        ·rw [if_pos c9] at H
         have c9b0 : decide (a0 ≤ 70) = true := decide_eq_true c9; clear c9; obtain rfl := Option.some.inj H; go_wp2; go_ret; exact ⟨rq, by repeat (first | exact Drawn0.refl _ | apply Drawn0.step)⟩
        ·rw [if_neg c9] at H
         have c9b0 : decide (a0 ≤ 70) = false := decide_eq_false c9; clear c9; obtain rfl := Option.some.inj H; go_wp2; go_ret; exact ⟨rq, by repeat (first | exact Drawn0.refl _ | apply Drawn0.step)⟩
       ·rw [if_neg c8] at H
        have c8b0 : decide (65 ≤ a0) = false := decide_eq_false c8; clear c8; obtain rfl := Option.some.inj H; go_wp2; go_ret; exact ⟨rq, by repeat (first | exact Drawn0.refl _ | apply Drawn0.step)⟩

/-! ### targumref6_bare: function 25 -/
def targumref6_bare.l0 : Nat → ByteArray → Int → List Int → Int → Option (ByteArray × Bool)
 | 0, _, _, _, _ => none
 | k + 1, x0, x1, x6, x7 => if x7 < (x0.size : Int) then (if 0 ≤ x7 then (if (bt x0 x7) = 95 then (targumref6_bare.l0 k x0 x1 x6 (wrap64 (x7 + 1))) else ((targumref4_Value.f k (bt x0 x7)).bind fun t261 => (if t261 ≥ x1 then (some ((⟨#[]⟩ : ByteArray), false)) else (if x6.length < 140737488355328 then (targumref6_bare.l0 k x0 x1 (x6 ++ [bt x0 x7]) (wrap64 (x7 + 1))) else (none))))) else (none)) else (some (strOfNums x6, decide ((x6.length : Int) > 0)))
def targumref6_bare.f (k : Nat) (a0 : ByteArray) (a1 : Int) : Option (ByteArray × Bool) := targumref6_bare.l0 k a0 a1 ([] : List Int) 0
theorem targumref6_bare.mono_l : ∀ k, (∀ y0 y1 y2 y3, LeO (targumref6_bare.l0 k y0 y1 y2 y3) (targumref6_bare.l0 (k + 1) y0 y1 y2 y3))
 | 0 => fun _ _ _ _ r h => by simp [targumref6_bare.l0] at h
 | k + 1 => by
  have ih0 := targumref6_bare.mono_l k
  ·intro y0 y1 y2 y3
   unfold targumref6_bare.l0
   repeat' first | (with_reducible exact ih0 _ _ _ _) | (with_reducible exact targumref4_Value.mono _ _) | (with_reducible exact LeO.refl _) | (with_reducible exact LeO.none _) | (with_reducible refine LeO.ite ?_ ?_) | (with_reducible refine LeO.bind ?_ (fun _ => ?_)) | exact ih0 _ _ _ _ | exact targumref4_Value.mono _ _ | exact LeO.none _ | refine LeO.ite ?_ ?_ | refine LeO.bind ?_ (fun _ => ?_)
theorem targumref6_bare.mono : ∀ a0 a1 k, LeO (targumref6_bare.f k a0 a1) (targumref6_bare.f (k + 1) a0 a1) := by
 intro a0 a1 k
 have ih0 := targumref6_bare.mono_l k
 unfold targumref6_bare.f
 repeat' first | (with_reducible exact ih0 _ _ _ _) | (with_reducible exact targumref4_Value.mono _ _) | (with_reducible exact LeO.refl _) | (with_reducible exact LeO.none _) | (with_reducible refine LeO.ite ?_ ?_) | (with_reducible refine LeO.bind ?_ (fun _ => ?_)) | exact ih0 _ _ _ _ | exact targumref4_Value.mono _ _ | exact LeO.none _ | refine LeO.ite ?_ ?_ | refine LeO.bind ?_ (fun _ => ?_)
set_option maxHeartbeats 8000000 in
set_option maxRecDepth 100000 in
theorem targumref6_bare.calls (k : Nat) (a0 : ByteArray) (a1 : Int) (r1 : ByteArray) (r2 : Bool) (w : World) (h : targumref6_bare.f k a0 a1 = some (r1, r2)) :
  Calls Tryz.prog 25 #[.string a0, .int .i64 a1] w fun e w' => e = .returned (.tuple #[.string r1, .bool r2]) ∧ Below w.heap.size w w' := by
 have HB := AM (Below.refl w.heap.size w)
 have H : (targumref6_bare.l0 k a0 a1 ([] : List Int) 0) = some (r1, r2) := h
 clear h
 have H' := AM H
 clear H
 go_enter Tryz.func25, Tryz.ntmps25
 go_wp2
 go_loopg [6, 7] k (fun kq v6 v7 w' => ∃ (x6_1 : List Int) (x7_1 : Int), v7 = .int .i64 x7_1 ∧ Aside0 (targumref6_bare.l0 kq a0 a1 x6_1 x7_1 = some (r1, r2)) ∧ Aside0 (kq ≤ k) ∧ Aside0 (Kd.R (Kd.int .u8) 5 w' w.heap.size (fun _ => True) v6 x6_1) ∧ Aside0 (Below w.heap.size w w'))
 case atStart => exact ⟨(([] : List Int)), (0), rq, H', ⟨Nat.le_refl _⟩, ⟨by first | exact Kd.R_nil _ _ _ _ _ | exact Kd.N_nil _ _ _ _ _ | exact Kd.V_nil _ _ _ _ _ | exact Kd.Q_nil _ _ _ _ _ | exact Kd.S_nil _ _ _ _ _⟩, ⟨bl⟩⟩
 case round =>
  clear H'
  obtain ⟨x6_1, x7_1, rfl, HA, HK1, HO_6, HB⟩ := hrel
  cases gk with
  | zero => exact absurd HA.out (by simp [targumref6_bare.l0])
  | succ k1 =>
   have H := HA.out
   clear HA
   simp only [targumref6_bare.l0] at H
   by_cases c3 : x7_1 < (a0.size : Int)
   ·rw [if_pos c3] at H
    have c3b0 : decide (x7_1 < (a0.size : Int)) = true := decide_eq_true c3; clear c3; by_cases c4 : 0 ≤ x7_1
    ·rw [if_pos c4] at H
     have c4b0 : decide (0 ≤ x7_1) = true := decide_eq_true c4; clear c4; by_cases c6 : (bt a0 x7_1) = 95
     ·rw [if_pos c6] at H
      have c6b0 : ((bt a0 x7_1) == 95) = true := beq_iff_eq.mpr c6; have c6b1 : ((bt a0 x7_1) != 95) = false := bne_eq_false_iff_eq.mpr c6; clear c6; have H' := AM H; clear H; have p5 : 0 ≤ (x7_1 : Int) := od; have q5 : x7_1 < (a0.size : Int) := od; have hx5 := bt_at a0 x7_1; replace p5 := eq_true p5; replace q5 := eq_true q5; go_wp2; go_roundg k1
      case measure => have := HK1.out; omega
      case rel => exact ⟨(x6_1), (wrap64 (x7_1 + 1)), rq, H', ⟨by have := HK1.out; omega⟩, ⟨by (with_reducible repeat (first | apply Kd.R_alloc | apply Kd.R_drewN | apply Kd.R_drew)); exact HO_6.out⟩, ⟨bl⟩⟩
     ·rw [if_neg c6] at H
      have c6b0 : ((bt a0 x7_1) == 95) = false := beq_eq_false_iff_ne.mpr c6; have c6b1 : ((bt a0 x7_1) != 95) = true := bne_iff_ne.mpr c6; replace H := Option.bind_eq_some_iff.mp H; obtain ⟨t261, A80, H⟩ := H; replace H : (if t261 ≥ a1 then (some ((⟨#[]⟩ : ByteArray), false)) else (if x6_1.length < 140737488355328 then (targumref6_bare.l0 k1 a0 a1 (x6_1 ++ [bt a0 x7_1]) (wrap64 (x7_1 + 1))) else (none))) = some (r1, r2) := H; have A8 := AM A80; clear A80; by_cases c9 : t261 ≥ a1
      ·rw [if_pos c9] at H
       have c9b0 : decide (a1 ≤ t261) = true := decide_eq_true c9; clear c9; simp only [Option.some.injEq, Prod.mk.injEq] at H; obtain ⟨rfl, rfl⟩ := H; have p5 : 0 ≤ (x7_1 : Int) := od; have q5 : x7_1 < (a0.size : Int) := od; have hx5 := bt_at a0 x7_1; replace p5 := eq_true p5; replace q5 := eq_true q5; have p7 : 0 ≤ (x7_1 : Int) := od; have q7 : x7_1 < (a0.size : Int) := od; have hx7 := bt_at a0 x7_1; replace p7 := eq_true p7; replace q7 := eq_true q7; go_wp2_with (first | ((with_reducible refine gate_callee (f := 46) rfl ?_); refine goesL_ (some 21) rfl rfl Tryz.func46 (by kernel_rfl) rfl #[.int .u8 (bt a0 x7_1)] rfl am ?_; (with_reducible refine (targumref4_Value.calls k1 (bt a0 x7_1) t261 _ A8.out).mono ?_); rintro e w' ⟨rfl, ⟨nd, rfl⟩⟩; refine ⟨_, rfl, ?_⟩)); go_ret2
       exact ⟨ew, bl⟩
      ·rw [if_neg c9] at H
       have c9b0 : decide (a1 ≤ t261) = false := decide_eq_false c9; clear c9; by_cases c11 : x6_1.length < 140737488355328
       ·rw [if_pos c11] at H
        have LMc11 := AM c11; clear c11; obtain ⟨y262, hy262⟩ : ∃ y_ : List Int, y_ = (x6_1 ++ [bt a0 x7_1]) := ⟨_, rfl⟩; replace H : (targumref6_bare.l0 k1 a0 a1 y262 (wrap64 (x7_1 + 1))) = some (r1, r2) := by first | (rw [hy262]; with_reducible exact H) | (have H2_ := (Option.bind_some _ _).symm.trans H; rw [hy262]; with_reducible exact H2_) | (have H2_ := (Option.bind_some _ _).symm.trans H; with_reducible exact H2_) | with_reducible exact H | (rw [hy262]; exact H) | exact H
        have Ny262 := AM hy262; clear hy262; have H' := AM H; clear H; have p5 : 0 ≤ (x7_1 : Int) := od; have q5 : x7_1 < (a0.size : Int) := od; have hx5 := bt_at a0 x7_1; replace p5 := eq_true p5; replace q5 := eq_true q5; have p7 : 0 ≤ (x7_1 : Int) := od; have q7 : x7_1 < (a0.size : Int) := od; have hx7 := bt_at a0 x7_1; replace p7 := eq_true p7; replace q7 := eq_true q7; go_wp2_with (first | ((with_reducible refine gate_callee (f := 46) rfl ?_); refine goesL_ (some 21) rfl rfl Tryz.func46 (by kernel_rfl) rfl #[.int .u8 (bt a0 x7_1)] rfl am ?_; (with_reducible refine (targumref4_Value.calls k1 (bt a0 x7_1) t261 _ A8.out).mono ?_); rintro e w' ⟨rfl, ⟨nd, rfl⟩⟩; refine ⟨_, rfl, ?_⟩; have p10 : 0 ≤ (x7_1 : Int) := od; have q10 : x7_1 < (a0.size : Int) := od; have hx10 := bt_at a0 x7_1; replace p10 := eq_true p10; replace q10 := eq_true q10) | ((with_reducible refine gate_builtin (b := .append) (xs := #[.tmp 24, .tmp 28]) rfl ?_); at_builtin; refine Kd.R_append (Kd.int .u8) (w0 := w) w.heap.size rfl (.tmp 24) (.tmp 28) 22 5 (.int .u8 0) 1 rfl Tryz.underlying22 info5 rfl (by decide) (by omega) u6 x6_1 (bt a0 x7_1) [.int .u8 (bt a0 x7_1)] (fun _ => True) (fun _ => False) rfl rfl ?aP (fun _ hk => hk.elim) ?aF ?aO ?aB ?aS ?aL ?_; (case aP => exact rfl); (case aB => exact bl); (case aF => exact (fun _ _ => trivial)); (case aO => exact (by (with_reducible repeat (first | apply Kd.R_alloc | apply Kd.R_drewN | apply Kd.R_drew)); exact HO_6.out)); (case aS => exact (below_size bl)); (case aL => have := LMc11.out; omega); intro v263 w12 ho hb hg hat; rw [← Ny262.out] at ho; have n0_ := AM (hb); have n1_ := AM (ho); clear HB; clear HO_6; have HB := n0_; have HO264 := n1_; clear n0_ n1_; clear ho hb hg hat)); go_roundg k1
        case measure => have := HK1.out; omega
        case rel => exact ⟨(y262), (wrap64 (x7_1 + 1)), rq, H', ⟨by have := HK1.out; omega⟩, ⟨by (with_reducible repeat (first | apply Kd.R_alloc | apply Kd.R_drewN | apply Kd.R_drew)); exact HO264.out⟩, ⟨bl⟩⟩
       ·rw [if_neg c11] at H
        exact absurd H (by simp)
    ·rw [if_neg c4] at H
     exact absurd H (by simp)
   ·rw [if_neg c3] at H
    have c3b0 : decide (x7_1 < (a0.size : Int)) = false := decide_eq_false c3; clear c3; simp only [Option.some.injEq, Prod.mk.injEq] at H; obtain ⟨rfl, rfl⟩ := H; have hcv13 := own_string (P := Tryz.prog) Tryz.underlying22 Tryz.underlying5 Tryz.underlying9 (Kd.own_of_R HO_6.out); obtain ⟨Ao14, co14, eo14⟩ := Kd.R_slice HO_6.out; subst eo14; go_wp2; go_ret2
    exact ⟨ew, bl⟩

end Go.Proofs.YtkijneohhilboaaGreatDoor.PT
