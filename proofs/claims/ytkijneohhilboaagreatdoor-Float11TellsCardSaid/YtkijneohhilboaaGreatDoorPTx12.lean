/- Written by this session's own program (xprint, made over the kit's print): Lean functions with the same answers as the Go functions, and the proofs of that. Not trusted: Lean checks it. -/
import Derived.Test.YtkijneohhilboaaGreatDoorPTx0
import Derived.Test.YtkijneohhilboaaGreatDoorPTx9
import Derived.Test.YtkijneohhilboaaGreatDoorPTx11
import Derived.Test.YtkijneohhilboaaGreatDoorXW
import Derived.Test.YtkijneohhilboaaGreatDoorXZ
namespace Go.Proofs.YtkijneohhilboaaGreatDoor.PT
open Go.Proofs.YtkijneohhilboaaGreatDoor.XZ
open Go.Proofs.YtkijneohhilboaaGreatDoor.XW Go.RowKit Go.Proofs.YtkijneohhilboaaGreatDoorW.PrintWords Go.Proofs.YtkijneohhilboaaGreatDoorW.PrintLast Go.Proofs.YtkijneohhilboaaGreatDoorW.PrintMore
attribute [local go_sem] max2_int min2_int max_two min_two max_three min_three max_four min_four   -- for this text's walks alone
set_option linter.unusedVariables false
set_option linter.unusedSimpArgs false

/-! ### targumref4_Make: function 14 -/
mutual
def targumref4_Make.j0 : Nat → Bool → ByteArray → ByteArray → ByteArray → Bool → Option (Int × Bool × ByteArray × ByteArray × Bool)
 | 0, _, _, _, _, _ => none
 | k + 1, x0, x1, x2, x3, x21 => if x21 = true then (some (0, false, (⟨#[]⟩ : ByteArray), (⟨#[]⟩ : ByteArray), false)) else (if x1.size + x2.size ≤ 9223372036854775807 then (targumref4_Make.l0 k x0 x2 x3 (x1 ++ x2) 0) else (none))
def targumref4_Make.j2 : Nat → Bool → ByteArray → ByteArray → ByteArray → Int → Option (Int × Bool × ByteArray × ByteArray × Bool)
 | 0, _, _, _, _, _ => none
 | k + 1, x0, x2, x3, x10, x11 => targumref4_Make.l1 k x0 x2 x3 x10 x11
def targumref4_Make.l1 : Nat → Bool → ByteArray → ByteArray → ByteArray → Int → Option (Int × Bool × ByteArray × ByteArray × Bool)
 | 0, _, _, _, _, _ => none
 | k + 1, x0, x2, x3, x10, x11 => if (x10.size : Int) > 0 then (if 0 < (x10.size : Int) then (if (bt x10 0) = 48 then (if 1 ≤ (x10.size : Int) then (targumref4_Make.l1 k x0 x2 x3 (x10.extract 1 x10.size) x11) else (none)) else (if x10.toList = ([] : List UInt8) then (some (0, x0, (⟨#[48]⟩ : ByteArray), (⟨#[48]⟩ : ByteArray), true)) else ((targumref4_Add.f k x3 (wrap64 (x11 - (x2.size : Int)))).bind fun t258 => (some (0, x0, x10, t258, true))))) else (none)) else (if x10.toList = ([] : List UInt8) then (some (0, x0, (⟨#[48]⟩ : ByteArray), (⟨#[48]⟩ : ByteArray), true)) else ((targumref4_Add.f k x3 (wrap64 (x11 - (x2.size : Int)))).bind fun t259 => (some (0, x0, x10, t259, true))))
def targumref4_Make.l0 : Nat → Bool → ByteArray → ByteArray → ByteArray → Int → Option (Int × Bool × ByteArray × ByteArray × Bool)
 | 0, _, _, _, _, _ => none
 | k + 1, x0, x2, x3, x10, x11 => if (x10.size : Int) > 0 then (if 0 ≤ (wrap64 ((x10.size : Int) - 1)) then (if (wrap64 ((x10.size : Int) - 1)) < (x10.size : Int) then (if (bt x10 (wrap64 ((x10.size : Int) - 1))) = 48 then (if (wrap64 ((x10.size : Int) - 1)) ≤ (x10.size : Int) then (targumref4_Make.l0 k x0 x2 x3 (x10.extract 0 ((wrap64 ((x10.size : Int) - 1)) : Int).toNat) (wrap64 (x11 + 1))) else (none)) else (targumref4_Make.j2 k x0 x2 x3 x10 x11)) else (none)) else (none)) else (targumref4_Make.j2 k x0 x2 x3 x10 x11)
end
def targumref4_Make.f (k : Nat) (a0 : Bool) (a1 : ByteArray) (a2 : ByteArray) (a3 : ByteArray) : Option (Int × Bool × ByteArray × ByteArray × Bool) := if a1.size + a2.size ≤ 9223372036854775807 then ((targumref4_Digits.f k (a1 ++ a2)).bind fun t256 => (if t256 = true then ((targumref4_Good.f k a3).bind fun t257 => (targumref4_Make.j0 k a0 a1 a2 a3 (!t257))) else (targumref4_Make.j0 k a0 a1 a2 a3 true))) else (none)
theorem targumref4_Make.mono_l : ∀ k, (∀ y0 y1 y2 y3 y4, LeO (targumref4_Make.j0 k y0 y1 y2 y3 y4) (targumref4_Make.j0 (k + 1) y0 y1 y2 y3 y4)) ∧ (∀ y0 y1 y2 y3 y4, LeO (targumref4_Make.j2 k y0 y1 y2 y3 y4) (targumref4_Make.j2 (k + 1) y0 y1 y2 y3 y4)) ∧ (∀ y0 y1 y2 y3 y4, LeO (targumref4_Make.l1 k y0 y1 y2 y3 y4) (targumref4_Make.l1 (k + 1) y0 y1 y2 y3 y4)) ∧ (∀ y0 y1 y2 y3 y4, LeO (targumref4_Make.l0 k y0 y1 y2 y3 y4) (targumref4_Make.l0 (k + 1) y0 y1 y2 y3 y4))
 | 0 => ⟨fun _ _ _ _ _ r h => by simp [targumref4_Make.j0] at h, fun _ _ _ _ _ r h => by simp [targumref4_Make.j2] at h, fun _ _ _ _ _ r h => by simp [targumref4_Make.l1] at h, fun _ _ _ _ _ r h => by simp [targumref4_Make.l0] at h⟩
 | k + 1 => by
  obtain ⟨ih0, ih1, ih2, ih3⟩ := targumref4_Make.mono_l k
  refine ⟨?_, ?_, ?_, ?_⟩
  ·intro y0 y1 y2 y3 y4
   unfold targumref4_Make.j0
   repeat' first | (with_reducible exact ih0 _ _ _ _ _) | (with_reducible exact ih1 _ _ _ _ _) | (with_reducible exact ih2 _ _ _ _ _) | (with_reducible exact ih3 _ _ _ _ _) | (with_reducible exact targumref4_Add.mono _ _ _) | (with_reducible exact targumref4_Digits.mono _ _) | (with_reducible exact targumref4_Good.mono _ _) | (with_reducible exact LeO.refl _) | (with_reducible exact LeO.none _) | (with_reducible refine LeO.ite ?_ ?_) | (with_reducible refine LeO.bind ?_ (fun _ => ?_)) | exact ih0 _ _ _ _ _ | exact ih1 _ _ _ _ _ | exact ih2 _ _ _ _ _ | exact ih3 _ _ _ _ _ | exact targumref4_Add.mono _ _ _ | exact targumref4_Digits.mono _ _ | exact targumref4_Good.mono _ _ | exact LeO.none _ | refine LeO.ite ?_ ?_ | refine LeO.bind ?_ (fun _ => ?_)
  ·intro y0 y1 y2 y3 y4
   unfold targumref4_Make.j2
   repeat' first | (with_reducible exact ih0 _ _ _ _ _) | (with_reducible exact ih1 _ _ _ _ _) | (with_reducible exact ih2 _ _ _ _ _) | (with_reducible exact ih3 _ _ _ _ _) | (with_reducible exact targumref4_Add.mono _ _ _) | (with_reducible exact targumref4_Digits.mono _ _) | (with_reducible exact targumref4_Good.mono _ _) | (with_reducible exact LeO.refl _) | (with_reducible exact LeO.none _) | (with_reducible refine LeO.ite ?_ ?_) | (with_reducible refine LeO.bind ?_ (fun _ => ?_)) | exact ih0 _ _ _ _ _ | exact ih1 _ _ _ _ _ | exact ih2 _ _ _ _ _ | exact ih3 _ _ _ _ _ | exact targumref4_Add.mono _ _ _ | exact targumref4_Digits.mono _ _ | exact targumref4_Good.mono _ _ | exact LeO.none _ | refine LeO.ite ?_ ?_ | refine LeO.bind ?_ (fun _ => ?_)
  ·intro y0 y1 y2 y3 y4
   unfold targumref4_Make.l1
   repeat' first | (with_reducible exact ih0 _ _ _ _ _) | (with_reducible exact ih1 _ _ _ _ _) | (with_reducible exact ih2 _ _ _ _ _) | (with_reducible exact ih3 _ _ _ _ _) | (with_reducible exact targumref4_Add.mono _ _ _) | (with_reducible exact targumref4_Digits.mono _ _) | (with_reducible exact targumref4_Good.mono _ _) | (with_reducible exact LeO.refl _) | (with_reducible exact LeO.none _) | (with_reducible refine LeO.ite ?_ ?_) | (with_reducible refine LeO.bind ?_ (fun _ => ?_)) | exact ih0 _ _ _ _ _ | exact ih1 _ _ _ _ _ | exact ih2 _ _ _ _ _ | exact ih3 _ _ _ _ _ | exact targumref4_Add.mono _ _ _ | exact targumref4_Digits.mono _ _ | exact targumref4_Good.mono _ _ | exact LeO.none _ | refine LeO.ite ?_ ?_ | refine LeO.bind ?_ (fun _ => ?_)
  ·intro y0 y1 y2 y3 y4
   unfold targumref4_Make.l0
   repeat' first | (with_reducible exact ih0 _ _ _ _ _) | (with_reducible exact ih1 _ _ _ _ _) | (with_reducible exact ih2 _ _ _ _ _) | (with_reducible exact ih3 _ _ _ _ _) | (with_reducible exact targumref4_Add.mono _ _ _) | (with_reducible exact targumref4_Digits.mono _ _) | (with_reducible exact targumref4_Good.mono _ _) | (with_reducible exact LeO.refl _) | (with_reducible exact LeO.none _) | (with_reducible refine LeO.ite ?_ ?_) | (with_reducible refine LeO.bind ?_ (fun _ => ?_)) | exact ih0 _ _ _ _ _ | exact ih1 _ _ _ _ _ | exact ih2 _ _ _ _ _ | exact ih3 _ _ _ _ _ | exact targumref4_Add.mono _ _ _ | exact targumref4_Digits.mono _ _ | exact targumref4_Good.mono _ _ | exact LeO.none _ | refine LeO.ite ?_ ?_ | refine LeO.bind ?_ (fun _ => ?_)
theorem targumref4_Make.mono : ∀ a0 a1 a2 a3 k, LeO (targumref4_Make.f k a0 a1 a2 a3) (targumref4_Make.f (k + 1) a0 a1 a2 a3) := by
 intro a0 a1 a2 a3 k
 obtain ⟨ih0, ih1, ih2, ih3⟩ := targumref4_Make.mono_l k
 unfold targumref4_Make.f
 repeat' first | (with_reducible exact ih0 _ _ _ _ _) | (with_reducible exact ih1 _ _ _ _ _) | (with_reducible exact ih2 _ _ _ _ _) | (with_reducible exact ih3 _ _ _ _ _) | (with_reducible exact targumref4_Add.mono _ _ _) | (with_reducible exact targumref4_Digits.mono _ _) | (with_reducible exact targumref4_Good.mono _ _) | (with_reducible exact LeO.refl _) | (with_reducible exact LeO.none _) | (with_reducible refine LeO.ite ?_ ?_) | (with_reducible refine LeO.bind ?_ (fun _ => ?_)) | exact ih0 _ _ _ _ _ | exact ih1 _ _ _ _ _ | exact ih2 _ _ _ _ _ | exact ih3 _ _ _ _ _ | exact targumref4_Add.mono _ _ _ | exact targumref4_Digits.mono _ _ | exact targumref4_Good.mono _ _ | exact LeO.none _ | refine LeO.ite ?_ ?_ | refine LeO.bind ?_ (fun _ => ?_)
set_option maxHeartbeats 8000000 in
set_option maxRecDepth 100000 in
theorem targumref4_Make.calls (k : Nat) (a0 : Bool) (a1 : ByteArray) (a2 : ByteArray) (a3 : ByteArray) (r1 : Int) (r2 : Bool) (r3 : ByteArray) (r4 : ByteArray) (r5 : Bool) (w : World) (h : targumref4_Make.f k a0 a1 a2 a3 = some (r1, r2, r3, r4, r5)) :
  Calls Tryz.prog 14 #[.bool a0, .string a1, .string a2, .string a3] w fun e w' => e = .returned (.tuple #[.agg #[.int .i64 r1, .bool r2, .string r3, .string r4], .bool r5]) ∧ Below w.heap.size w w' := by
 have hu26 := Tryz.underlying26
 have HB := AM (Below.refl w.heap.size w)
 have H : (if a1.size + a2.size ≤ 9223372036854775807 then ((targumref4_Digits.f k (a1 ++ a2)).bind fun t256 => (if t256 = true then ((targumref4_Good.f k a3).bind fun t257 => (targumref4_Make.j0 k a0 a1 a2 a3 (!t257))) else (targumref4_Make.j0 k a0 a1 a2 a3 true))) else (none)) = some (r1, r2, r3, r4, r5) := h
 clear h
 have HC5 := AM H
 clear H
 go_enter Tryz.func14, Tryz.ntmps14
 go_upto_region 1 with (first | ((with_reducible refine gate_dst (N := 8) rfl ?_); (try (refine gate_guard (by rfl) ?_; dsimp only)); refine box_event ?hg (N := 8) ?hd (cs := #[.int .i64 0, .bool false, .string (⟨#[]⟩ : ByteArray), .string (⟨#[]⟩ : ByteArray)]) (t := 26) ?hr ?_; (case hd => rfl); (case hg => rfl); (case hr => first | (go_simp; done) | (go_simp; rfl)); intro gb255 hg w6 hbox hb; have GW255 := gq (w := w) hg; have GE255 := GW255; replace HB := AM (below_step bl hb); have BK255 := AM (hbox); clear hb hbox hg))
 (try simp only [Act.put, qI, qz, qs])
 go_cut [21] (fun v21 wc => ∃ (kq : Nat) (x21_4 : Bool), v21 = .bool x21_4 ∧ Aside0 (targumref4_Make.j0 kq a0 a1 a2 a3 x21_4 = some (r1, r2, r3, r4, r5)) ∧ Aside0 (kq ≤ k) ∧ Aside0 (wc.heap[gb255]? = some (.cells #[.int .i64 0, .bool false, .string (⟨#[]⟩ : ByteArray), .string (⟨#[]⟩ : ByteArray)] 26 (0, 0))) ∧ Aside0 (Below w.heap.size w wc))
 case first =>
  have H := HC5.out
  clear HC5
  by_cases c7 : a1.size + a2.size ≤ 9223372036854775807
  ·rw [if_pos c7] at H
   have c7b0 := eq_true c7
   have c7b1 : decide (a1.size + a2.size ≤ 9223372036854775807) = true := decide_eq_true c7
   try have c7b2 : (9223372036854775807 < a1.size + a2.size) = False := eq_false (Nat.not_lt.2 c7)
   replace H := Option.bind_eq_some_iff.mp H
   obtain ⟨t256, A80, H⟩ := H
   replace H : (if t256 = true then ((targumref4_Good.f k a3).bind fun t257 => (targumref4_Make.j0 k a0 a1 a2 a3 (!t257))) else (targumref4_Make.j0 k a0 a1 a2 a3 true)) = some (r1, r2, r3, r4, r5) := H
   have A8 := AM A80
   clear A80
   by_cases c9 : t256 = true
   ·subst c9
    have H1 : ((targumref4_Good.f k a3).bind fun t257 => (targumref4_Make.j0 k a0 a1 a2 a3 (!t257))) = some (r1, r2, r3, r4, r5) := by rw [if_pos rfl] at H; exact H
    clear H; have H := H1; clear H1; replace H := Option.bind_eq_some_iff.mp H; obtain ⟨t257, A100, H⟩ := H; replace H : (targumref4_Make.j0 k a0 a1 a2 a3 (!t257)) = some (r1, r2, r3, r4, r5) := H; have A10 := AM A100; clear A100; have H' := AM H; clear H; go_wp2_with (first | ((with_reducible refine gate_callee (f := 28) rfl ?_); refine goesL_ (some 15) rfl rfl Tryz.func28 (by kernel_rfl) rfl #[.string (a1 ++ a2)] rfl am ?_; (with_reducible refine (targumref4_Digits.calls k (a1 ++ a2) true _ A8.out).mono ?_); rintro e w' ⟨rfl, ⟨nd, rfl⟩⟩; refine ⟨_, rfl, ?_⟩) | (go_at_call 29; (with_reducible refine (targumref4_Good.calls k a3 t257 _ A10.out).mono ?_); rintro e w' ⟨rfl, ⟨nd, rfl⟩⟩)); go_meet
    case rel => exact ⟨_, (!t257), rq, H', ⟨by first | omega | exact Nat.le_refl _⟩, ⟨by (with_reducible repeat (first | refine vN ?_ _ | refine vD ?_ | refine vA ?_ _)); exact BK255.out⟩, ⟨bl⟩⟩
   ·replace c9 := Bool.eq_false_iff.mpr c9
    subst c9; have H1 : (targumref4_Make.j0 k a0 a1 a2 a3 true) = some (r1, r2, r3, r4, r5) := by rw [if_neg (show ¬ (false = true) by decide)] at H; exact H
    clear H; have H := H1; clear H1; have H' := AM H; clear H; go_wp2_with (first | ((with_reducible refine gate_callee (f := 28) rfl ?_); refine goesL_ (some 15) rfl rfl Tryz.func28 (by kernel_rfl) rfl #[.string (a1 ++ a2)] rfl am ?_; (with_reducible refine (targumref4_Digits.calls k (a1 ++ a2) false _ A8.out).mono ?_); rintro e w' ⟨rfl, ⟨nd, rfl⟩⟩; refine ⟨_, rfl, ?_⟩)); go_meet
    case rel => exact ⟨_, (true), rq, H', ⟨by first | omega | exact Nat.le_refl _⟩, ⟨by (with_reducible repeat (first | refine vN ?_ _ | refine vD ?_ | refine vA ?_ _)); exact BK255.out⟩, ⟨bl⟩⟩
  ·rw [if_neg c7] at H
   exact absurd H (by simp)
 case rest =>
  clear HC5
  obtain ⟨kq, x21_4, rfl, HA, HJ4, BK255, HB⟩ := hcut
  cases kq with
  | zero => exact absurd HA.out (by simp [targumref4_Make.j0])
  | succ kj4 =>
   have H := HA.out
   clear HA
   simp only [targumref4_Make.j0] at H
   by_cases c11 : x21_4 = true
   ·subst c11
    have H1 : (some (0, false, (⟨#[]⟩ : ByteArray), (⟨#[]⟩ : ByteArray), false)) = some (r1, r2, r3, r4, r5) := by rw [if_pos rfl] at H; exact H
    clear H; have H := H1; clear H1; simp only [Option.some.injEq, Prod.mk.injEq] at H; obtain ⟨rfl, rfl, rfl, rfl, rfl⟩ := H; obtain ⟨hcz12_0, hcz12_1, hcz12_2, hcz12_3, hfz12_0, hfz12_1, hfz12_2, hfz12_3⟩ := cz4 BK255.out; go_wp2; refine bodyPost_ret (results_ct rfl _ _ gb255 26 #[.int .i64 0, .bool false, .string (⟨#[]⟩ : ByteArray), .string (⟨#[]⟩ : ByteArray)] (0, 0) _ rfl bk Tryz.underlying26 rfl (by kernel_rfl)) rfl ?_
    exact ⟨by first | rfl | (simp [errW_none, errW_some] <;> rfl) | (simp [*, errW_none, errW_some] <;> rfl) | ((generalize ByteArray.toList _ = z_); cases z_ <;> first | rfl | (simp; done)), bl⟩
   ·replace c11 := Bool.eq_false_iff.mpr c11
    subst c11; have H1 : (if a1.size + a2.size ≤ 9223372036854775807 then (targumref4_Make.l0 kj4 a0 a2 a3 (a1 ++ a2) 0) else (none)) = some (r1, r2, r3, r4, r5) := by rw [if_neg (show ¬ (false = true) by decide)] at H; exact H
    clear H; have H := H1; clear H1; by_cases c13 : a1.size + a2.size ≤ 9223372036854775807
    ·rw [if_pos c13] at H
     have c13b0 := eq_true c13; have c13b1 : decide (a1.size + a2.size ≤ 9223372036854775807) = true := decide_eq_true c13; try have c13b2 : (9223372036854775807 < a1.size + a2.size) = False := eq_false (Nat.not_lt.2 c13)
     have HC14 := AM H; clear H; go_upto_block 0 with (fail)
     go_cut [10, 11] (fun v10 v11 wc => ∃ (kq : Nat) (x10_13 : ByteArray) (x11_13 : Int), v10 = .string x10_13 ∧ v11 = .int .i64 x11_13 ∧ Aside0 (targumref4_Make.j2 kq a0 a2 a3 x10_13 x11_13 = some (r1, r2, r3, r4, r5)) ∧ Aside0 (kq ≤ kj4) ∧ Aside0 (wc.heap[gb255]? = some (.cells #[.int .i64 0, .bool false, .string (⟨#[]⟩ : ByteArray), .string (⟨#[]⟩ : ByteArray)] 26 (0, 0))) ∧ Aside0 (Below w.heap.size w wc))
     case first =>
      have H := HC14.out; clear HC14; have H' := AM H; clear H; go_wp2; go_loopg [10, 11] kj4 (fun kq v10 v11 w' => ∃ (x10_2 : ByteArray) (x11_2 : Int), v10 = .string x10_2 ∧ v11 = .int .i64 x11_2 ∧ Aside0 (targumref4_Make.l0 kq a0 a2 a3 x10_2 x11_2 = some (r1, r2, r3, r4, r5)) ∧ Aside0 (kq ≤ kj4) ∧ Aside0 (w'.heap[gb255]? = some (.cells #[.int .i64 0, .bool false, .string (⟨#[]⟩ : ByteArray), .string (⟨#[]⟩ : ByteArray)] 26 (0, 0))) ∧ Aside0 (Below w.heap.size w w'))
      case atStart => exact ⟨(a1 ++ a2), (0), rq, rq, H', ⟨Nat.le_refl _⟩, ⟨by (with_reducible repeat (first | refine vN ?_ _ | refine vD ?_ | refine vA ?_ _)); exact BK255.out⟩, ⟨bl⟩⟩
      case round =>
       clear H'; try clear c11; try clear c13; try clear c13b0; try clear c13b1; try clear c13b2
       obtain ⟨x10_2, x11_2, rfl, rfl, HA, HK2, BK255, HB⟩ := hrel; cases gk with
       | zero => exact absurd HA.out (by simp [targumref4_Make.l0])
       | succ k2 =>
        have H := HA.out; clear HA; simp only [targumref4_Make.l0] at H; by_cases c15 : (x10_2.size : Int) > 0
        ·rw [if_pos c15] at H
         have c15b0 : decide (0 < (x10_2.size : Int)) = true := decide_eq_true c15; have c15b1 : decide (0 < x10_2.size) = true := decide_eq_true (by omega); clear c15; (first | rw [c15b0] | (simp only [qi, qj]; rw [c15b0]) | skip); obtain ⟨ji16, hji16⟩ : ∃ j_ : Int, (wrap64 ((x10_2.size : Int) - 1)) = j_ := ⟨_, rfl⟩; replace H : (if 0 ≤ (ji16) then (if (ji16) < (x10_2.size : Int) then (if (bt x10_2 (ji16)) = 48 then (if (ji16) ≤ (x10_2.size : Int) then (targumref4_Make.l0 k2 a0 a2 a3 (x10_2.extract 0 ((ji16) : Int).toNat) (wrap64 (x11_2 + 1))) else (none)) else (targumref4_Make.j2 k2 a0 a2 a3 x10_2 x11_2)) else (none)) else (none)) = some (r1, r2, r3, r4, r5) := by first | (rw [hji16] at H; exact H) | (simp only [hji16] at H ⊢; exact H)
         have hji16w : (IntKind.i64.wrap ((x10_2.size : Int) - 1)) = ji16 := (qi _).trans hji16; by_cases c17 : 0 ≤ (ji16)
         ·rw [if_pos c17] at H
          have c17b0 : decide (0 ≤ (ji16)) = true := decide_eq_true c17; clear c17; by_cases c18 : (ji16) < (x10_2.size : Int)
          ·rw [if_pos c18] at H
           have c18b0 : decide ((ji16) < (x10_2.size : Int)) = true := decide_eq_true c18; clear c18; by_cases c20 : (bt x10_2 (ji16)) = 48
           ·rw [if_pos c20] at H
            have c20b0 : ((bt x10_2 (ji16)) == 48) = true := beq_iff_eq.mpr c20; have c20b1 : ((bt x10_2 (ji16)) != 48) = false := bne_eq_false_iff_eq.mpr c20; clear c20; have c21b0 := eq_true (od : 0 ≤ (ji16)); by_cases c22 : (ji16) ≤ (x10_2.size : Int)
            ·rw [if_pos c22] at H
             have c22b0 := eq_true c22; have c22b1 : decide ((ji16) ≤ (x10_2.size : Int)) = true := decide_eq_true c22; clear c22; have H' := AM H; clear H; have p19 : 0 ≤ ((ji16) : Int) := od; have q19 : (ji16) < (x10_2.size : Int) := od; have hx19 := bt_at x10_2 (ji16); replace p19 := eq_true p19; replace q19 := eq_true q19; go_wp2; go_roundg k2
             case measure => have := HJ4.out; have := HK2.out; omega
             case rel => exact ⟨(x10_2.extract 0 ((ji16) : Int).toNat), (wrap64 (x11_2 + 1)), (by first | rfl | (simp; done) | (simp only [← hji16] <;> (first | rfl | simp)) | (simp [*]; done)), rq, H', ⟨by have := HJ4.out; have := HK2.out; omega⟩, ⟨by (with_reducible repeat (first | refine vN ?_ _ | refine vD ?_ | refine vA ?_ _)); exact BK255.out⟩, ⟨bl⟩⟩
            ·rw [if_neg c22] at H
             exact absurd H (by simp)
           ·rw [if_neg c20] at H
            have c20b0 : ((bt x10_2 (ji16)) == 48) = false := beq_eq_false_iff_ne.mpr c20; have c20b1 : ((bt x10_2 (ji16)) != 48) = true := bne_iff_ne.mpr c20; have H' := AM H; clear H; have p19 : 0 ≤ ((ji16) : Int) := od; have q19 : (ji16) < (x10_2.size : Int) := od; have hx19 := bt_at x10_2 (ji16); replace p19 := eq_true p19; replace q19 := eq_true q19; go_wp2; go_meet
            case rel => exact ⟨_, (x10_2), (x11_2), rq, rq, H', ⟨by have := HJ4.out; have := HK2.out; first | omega | exact Nat.le_refl _⟩, ⟨by (with_reducible repeat (first | refine vN ?_ _ | refine vD ?_ | refine vA ?_ _)); exact BK255.out⟩, ⟨bl⟩⟩
          ·rw [if_neg c18] at H
           exact absurd H (by simp)
         ·rw [if_neg c17] at H
          exact absurd H (by simp)
        ·rw [if_neg c15] at H
         have c15b0 : decide (0 < (x10_2.size : Int)) = false := decide_eq_false c15; have c15b1 : decide (0 < x10_2.size) = false := decide_eq_false (by omega); clear c15; (first | rw [c15b0] | (simp only [qi, qj]; rw [c15b0]) | skip); have H' := AM H; clear H; go_wp2; go_meet
         case rel => exact ⟨_, (x10_2), (x11_2), rq, rq, H', ⟨by have := HJ4.out; have := HK2.out; first | omega | exact Nat.le_refl _⟩, ⟨by (with_reducible repeat (first | refine vN ?_ _ | refine vD ?_ | refine vA ?_ _)); exact BK255.out⟩, ⟨bl⟩⟩
     case rest =>
      clear HC14; try clear c11; try clear c13; try clear c13b0; try clear c13b1; try clear c13b2
      obtain ⟨kq, x10_13, x11_13, rfl, rfl, HA, HJ13, BK255, HB⟩ := hcut; cases kq with
      | zero => exact absurd HA.out (by simp [targumref4_Make.j2])
      | succ kj13 =>
       have H := HA.out; clear HA; simp only [targumref4_Make.j2] at H; have H' := AM H; clear H; go_wp2; go_loopg [10] kj13 (fun kq v10 w' => ∃ (x10_3 : ByteArray), v10 = .string x10_3 ∧ Aside0 (targumref4_Make.l1 kq a0 a2 a3 x10_3 x11_13 = some (r1, r2, r3, r4, r5)) ∧ Aside0 (kq ≤ kj13) ∧ Aside0 (w'.heap[gb255]? = some (.cells #[.int .i64 0, .bool false, .string (⟨#[]⟩ : ByteArray), .string (⟨#[]⟩ : ByteArray)] 26 (0, 0))) ∧ Aside0 (Below w.heap.size w w'))
       case atStart => exact ⟨(x10_13), rq, H', ⟨Nat.le_refl _⟩, ⟨by (with_reducible repeat (first | refine vN ?_ _ | refine vD ?_ | refine vA ?_ _)); exact BK255.out⟩, ⟨bl⟩⟩
       case round =>
        clear H'; try clear c11; try clear c13; try clear c13b0; try clear c13b1; try clear c13b2
        obtain ⟨x10_3, rfl, HA, HK3, BK255, HB⟩ := hrel; cases gk with
        | zero => exact absurd HA.out (by simp [targumref4_Make.l1])
        | succ k3 =>
         have H := HA.out; clear HA; simp only [targumref4_Make.l1] at H; by_cases c23 : (x10_3.size : Int) > 0
         ·rw [if_pos c23] at H
          have c23b0 : decide (0 < (x10_3.size : Int)) = true := decide_eq_true c23; have c23b1 : decide (0 < x10_3.size) = true := decide_eq_true (by omega); clear c23; by_cases c24 : 0 < (x10_3.size : Int)
          ·rw [if_pos c24] at H
           have c24b0 : decide (0 < (x10_3.size : Int)) = true := decide_eq_true c24; have c24b1 : decide (0 < x10_3.size) = true := decide_eq_true (by omega); clear c24; by_cases c26 : (bt x10_3 0) = 48
           ·rw [if_pos c26] at H
            have c26b0 : ((bt x10_3 0) == 48) = true := beq_iff_eq.mpr c26; have c26b1 : ((bt x10_3 0) != 48) = false := bne_eq_false_iff_eq.mpr c26; clear c26; by_cases c27 : 1 ≤ (x10_3.size : Int)
            ·rw [if_pos c27] at H
             have c27b0 := eq_true c27; have c27b1 : decide (1 ≤ (x10_3.size : Int)) = true := decide_eq_true c27; clear c27; have H' := AM H; clear H; have p25 : 0 ≤ (0 : Int) := (by omega); have q25 : 0 < x10_3.size := (by have : (0 : Int) < (x10_3.size : Int) := od; omega); have hx25 : ∀ h : 0 < x10_3.size, ((x10_3[0]'h).toNat : Int) = bt x10_3 0 := bt_at x10_3 0; clear p25; have qi25 : (0 < (x10_3.size : Int)) = True := eq_true (od); replace q25 := eq_true q25; go_wp2; go_roundg k3
             case measure => have := HJ4.out; have := HJ13.out; have := HK3.out; omega
             case rel => exact ⟨(x10_3.extract 1 x10_3.size), rq, H', ⟨by have := HJ4.out; have := HJ13.out; have := HK3.out; omega⟩, ⟨by (with_reducible repeat (first | refine vN ?_ _ | refine vD ?_ | refine vA ?_ _)); exact BK255.out⟩, ⟨bl⟩⟩
            ·rw [if_neg c27] at H
             exact absurd H (by simp)
           ·rw [if_neg c26] at H
            have c26b0 : ((bt x10_3 0) == 48) = false := beq_eq_false_iff_ne.mpr c26; have c26b1 : ((bt x10_3 0) != 48) = true := bne_iff_ne.mpr c26; by_cases c28 : x10_3.toList = ([] : List UInt8)
            ·rw [if_pos c28] at H
             have c28b0 : (x10_3.toList == ([] : List UInt8)) = true := beq_iff_eq.mpr c28; have c28b1 : (x10_3.toList != ([] : List UInt8)) = false := bne_eq_false_iff_eq.mpr c28; clear c28; simp only [Option.some.injEq, Prod.mk.injEq] at H; obtain ⟨rfl, rfl, rfl, rfl, rfl⟩ := H; have p25 : 0 ≤ (0 : Int) := (by omega); have q25 : 0 < x10_3.size := (by have : (0 : Int) < (x10_3.size : Int) := od; omega); have hx25 : ∀ h : 0 < x10_3.size, ((x10_3[0]'h).toNat : Int) = bt x10_3 0 := bt_at x10_3 0; clear p25; have qi25 : (0 < (x10_3.size : Int)) = True := eq_true (od); replace q25 := eq_true q25; obtain ⟨hcz29_0, hcz29_1, hcz29_2, hcz29_3, hfz29_0, hfz29_1, hfz29_2, hfz29_3⟩ := cz4 BK255.out; go_wp2; refine bodyPost_ret (results_ct rfl _ _ gb255 26 #[.int .i64 0, .bool a0, .string (⟨#[48]⟩ : ByteArray), .string (⟨#[48]⟩ : ByteArray)] (0, 0) _ rfl bk Tryz.underlying26 rfl (by kernel_rfl)) rfl ?_
             exact ⟨by first | rfl | (simp [errW_none, errW_some] <;> rfl) | (simp [*, errW_none, errW_some] <;> rfl) | ((generalize ByteArray.toList _ = z_); cases z_ <;> first | rfl | (simp; done)), bl⟩
            ·rw [if_neg c28] at H
             have c28b0 : (x10_3.toList == ([] : List UInt8)) = false := beq_eq_false_iff_ne.mpr c28; have c28b1 : (x10_3.toList != ([] : List UInt8)) = true := bne_iff_ne.mpr c28; replace H := Option.bind_eq_some_iff.mp H; obtain ⟨t258, A300, H⟩ := H; replace H : (some (0, a0, x10_3, t258, true)) = some (r1, r2, r3, r4, r5) := H; have A30 := AM A300; try (have A30z := AM A30.out; rw [show wrap64 (x11_13 - (a2.size : Int)) = x11_13 - (a2.size : Int) from by first | omega | (unfold wrap64; omega) | ((try have hc7_ := c7; try simp only [ByteArray.size_append] at hc7_); (try have hc13_ := c13; try simp only [ByteArray.size_append] at hc13_); unfold wrap64; omega)] at A30z)
             clear A300; simp only [Option.some.injEq, Prod.mk.injEq] at H; obtain ⟨rfl, rfl, rfl, rfl, rfl⟩ := H; have p25 : 0 ≤ (0 : Int) := (by omega); have q25 : 0 < x10_3.size := (by have : (0 : Int) < (x10_3.size : Int) := od; omega); have hx25 : ∀ h : 0 < x10_3.size, ((x10_3[0]'h).toNat : Int) = bt x10_3 0 := bt_at x10_3 0; clear p25; have qi25 : (0 < (x10_3.size : Int)) = True := eq_true (od); replace q25 := eq_true q25
             go_wp2_with (first | ((with_reducible refine gate_callee (f := 30) rfl ?_); refine goesL_ (some 65) rfl rfl Tryz.func30 (by kernel_rfl) rfl #[.string a3, .int .i64 (wrap64 (x11_13 - (a2.size : Int)))] rfl am ?_; (with_reducible refine (targumref4_Add.calls k3 a3 (wrap64 (x11_13 - (a2.size : Int))) t258 _ A30.out).mono ?_); rintro e w31 ⟨rfl, hb⟩; refine ⟨_, rfl, ?_⟩; replace BK255 := AM (blk_below (g := gb255) (o := .cells #[.int .i64 0, .bool false, .string (⟨#[]⟩ : ByteArray), .string (⟨#[]⟩ : ByteArray)] 26 (0, 0)) bk hb); replace HB := AM (below_step bl hb); (try clear hb); obtain ⟨hcz32_0, hcz32_1, hcz32_2, hcz32_3, hfz32_0, hfz32_1, hfz32_2, hfz32_3⟩ := cz4 BK255.out) | ((with_reducible refine gate_callee (f := 30) rfl ?_); refine goesL_ (some 65) rfl rfl Tryz.func30 (by kernel_rfl) rfl #[.string a3, .int .i64 ((x11_13 - (a2.size : Int)))] rfl am ?_; (with_reducible refine (targumref4_Add.calls k3 a3 ((x11_13 - (a2.size : Int))) t258 _ A30z.out).mono ?_); rintro e w31 ⟨rfl, hb⟩; refine ⟨_, rfl, ?_⟩; replace BK255 := AM (blk_below (g := gb255) (o := .cells #[.int .i64 0, .bool false, .string (⟨#[]⟩ : ByteArray), .string (⟨#[]⟩ : ByteArray)] 26 (0, 0)) bk hb); replace HB := AM (below_step bl hb); (try clear hb); obtain ⟨hcz32_0, hcz32_1, hcz32_2, hcz32_3, hfz32_0, hfz32_1, hfz32_2, hfz32_3⟩ := cz4 BK255.out))
             refine bodyPost_ret (results_ct rfl _ _ gb255 26 #[.int .i64 0, .bool a0, .string x10_3, .string t258] (0, 0) _ rfl bk Tryz.underlying26 rfl (by kernel_rfl)) rfl ?_
             exact ⟨by first | rfl | (simp [errW_none, errW_some] <;> rfl) | (simp [*, errW_none, errW_some] <;> rfl) | ((generalize ByteArray.toList _ = z_); cases z_ <;> first | rfl | (simp; done)), bl⟩
          ·rw [if_neg c24] at H
           exact absurd H (by simp)
         ·rw [if_neg c23] at H
          have c23b0 : decide (0 < (x10_3.size : Int)) = false := decide_eq_false c23; have c23b1 : decide (0 < x10_3.size) = false := decide_eq_false (by omega); clear c23; by_cases c33 : x10_3.toList = ([] : List UInt8)
          ·rw [if_pos c33] at H
           have c33b0 : (x10_3.toList == ([] : List UInt8)) = true := beq_iff_eq.mpr c33; have c33b1 : (x10_3.toList != ([] : List UInt8)) = false := bne_eq_false_iff_eq.mpr c33; clear c33; simp only [Option.some.injEq, Prod.mk.injEq] at H; obtain ⟨rfl, rfl, rfl, rfl, rfl⟩ := H; obtain ⟨hcz34_0, hcz34_1, hcz34_2, hcz34_3, hfz34_0, hfz34_1, hfz34_2, hfz34_3⟩ := cz4 BK255.out; go_wp2; refine bodyPost_ret (results_ct rfl _ _ gb255 26 #[.int .i64 0, .bool a0, .string (⟨#[48]⟩ : ByteArray), .string (⟨#[48]⟩ : ByteArray)] (0, 0) _ rfl bk Tryz.underlying26 rfl (by kernel_rfl)) rfl ?_
           exact ⟨by first | rfl | (simp [errW_none, errW_some] <;> rfl) | (simp [*, errW_none, errW_some] <;> rfl) | ((generalize ByteArray.toList _ = z_); cases z_ <;> first | rfl | (simp; done)), bl⟩
          ·rw [if_neg c33] at H
           have c33b0 : (x10_3.toList == ([] : List UInt8)) = false := beq_eq_false_iff_ne.mpr c33; have c33b1 : (x10_3.toList != ([] : List UInt8)) = true := bne_iff_ne.mpr c33; replace H := Option.bind_eq_some_iff.mp H; obtain ⟨t259, A350, H⟩ := H; replace H : (some (0, a0, x10_3, t259, true)) = some (r1, r2, r3, r4, r5) := H; have A35 := AM A350; try (have A35z := AM A35.out; rw [show wrap64 (x11_13 - (a2.size : Int)) = x11_13 - (a2.size : Int) from by first | omega | (unfold wrap64; omega) | ((try have hc7_ := c7; try simp only [ByteArray.size_append] at hc7_); (try have hc13_ := c13; try simp only [ByteArray.size_append] at hc13_); unfold wrap64; omega)] at A35z)
           clear A350; simp only [Option.some.injEq, Prod.mk.injEq] at H; obtain ⟨rfl, rfl, rfl, rfl, rfl⟩ := H; go_wp2_with (first | ((with_reducible refine gate_callee (f := 30) rfl ?_); refine goesL_ (some 65) rfl rfl Tryz.func30 (by kernel_rfl) rfl #[.string a3, .int .i64 (wrap64 (x11_13 - (a2.size : Int)))] rfl am ?_; (with_reducible refine (targumref4_Add.calls k3 a3 (wrap64 (x11_13 - (a2.size : Int))) t259 _ A35.out).mono ?_); rintro e w36 ⟨rfl, hb⟩; refine ⟨_, rfl, ?_⟩; replace BK255 := AM (blk_below (g := gb255) (o := .cells #[.int .i64 0, .bool false, .string (⟨#[]⟩ : ByteArray), .string (⟨#[]⟩ : ByteArray)] 26 (0, 0)) bk hb); replace HB := AM (below_step bl hb); (try clear hb); obtain ⟨hcz37_0, hcz37_1, hcz37_2, hcz37_3, hfz37_0, hfz37_1, hfz37_2, hfz37_3⟩ := cz4 BK255.out) | ((with_reducible refine gate_callee (f := 30) rfl ?_); refine goesL_ (some 65) rfl rfl Tryz.func30 (by kernel_rfl) rfl #[.string a3, .int .i64 ((x11_13 - (a2.size : Int)))] rfl am ?_; (with_reducible refine (targumref4_Add.calls k3 a3 ((x11_13 - (a2.size : Int))) t259 _ A35z.out).mono ?_); rintro e w36 ⟨rfl, hb⟩; refine ⟨_, rfl, ?_⟩; replace BK255 := AM (blk_below (g := gb255) (o := .cells #[.int .i64 0, .bool false, .string (⟨#[]⟩ : ByteArray), .string (⟨#[]⟩ : ByteArray)] 26 (0, 0)) bk hb); replace HB := AM (below_step bl hb); (try clear hb); obtain ⟨hcz37_0, hcz37_1, hcz37_2, hcz37_3, hfz37_0, hfz37_1, hfz37_2, hfz37_3⟩ := cz4 BK255.out))
           refine bodyPost_ret (results_ct rfl _ _ gb255 26 #[.int .i64 0, .bool a0, .string x10_3, .string t259] (0, 0) _ rfl bk Tryz.underlying26 rfl (by kernel_rfl)) rfl ?_
           exact ⟨by first | rfl | (simp [errW_none, errW_some] <;> rfl) | (simp [*, errW_none, errW_some] <;> rfl) | ((generalize ByteArray.toList _ = z_); cases z_ <;> first | rfl | (simp; done)), bl⟩
    ·rw [if_neg c13] at H
     exact absurd H (by simp)

/-! ### targumref6_sign: function 21 -/
def targumref6_sign.f (a0 : ByteArray) : Option (ByteArray × Bool) := if (a0.size : Int) > 0 then (if 0 < (a0.size : Int) then (if (bt a0 0) = 43 then (if 1 ≤ (a0.size : Int) then (some (a0.extract 1 a0.size, ((bt a0 0) == 45))) else (none)) else (if (bt a0 0) = 45 then (if 1 ≤ (a0.size : Int) then (some (a0.extract 1 a0.size, ((bt a0 0) == 45))) else (none)) else (some (a0, false)))) else (none)) else (some (a0, false))
set_option maxHeartbeats 8000000 in
set_option maxRecDepth 100000 in
theorem targumref6_sign.calls (a0 : ByteArray) (r1 : ByteArray) (r2 : Bool) (w : World) (h : targumref6_sign.f a0 = some (r1, r2)) :
  Calls Tryz.prog 21 #[.string a0] w fun e w' => e = .returned (.tuple #[.string r1, .bool r2]) ∧ Drawn0 w w' := by
 have H : (if (a0.size : Int) > 0 then (if 0 < (a0.size : Int) then (if (bt a0 0) = 43 then (if 1 ≤ (a0.size : Int) then (some (a0.extract 1 a0.size, ((bt a0 0) == 45))) else (none)) else (if (bt a0 0) = 45 then (if 1 ≤ (a0.size : Int) then (some (a0.extract 1 a0.size, ((bt a0 0) == 45))) else (none)) else (some (a0, false)))) else (none)) else (some (a0, false))) = some (r1, r2) := h
 clear h
 by_cases c2 : (a0.size : Int) > 0
 ·rw [if_pos c2] at H
  have c2b0 : decide (0 < (a0.size : Int)) = true := decide_eq_true c2
  have c2b1 : decide (0 < a0.size) = true := decide_eq_true (by omega)
  clear c2
  by_cases c3 : 0 < (a0.size : Int)
  ·rw [if_pos c3] at H
   have c3b0 : decide (0 < (a0.size : Int)) = true := decide_eq_true c3
   have c3b1 : decide (0 < a0.size) = true := decide_eq_true (by omega)
   clear c3
   by_cases c5 : (bt a0 0) = 43
   ·rw [if_pos c5] at H
    have c5b0 : ((bt a0 0) == 43) = true := beq_iff_eq.mpr c5; have c5b1 : ((bt a0 0) != 43) = false := bne_eq_false_iff_eq.mpr c5; clear c5; by_cases c6 : 1 ≤ (a0.size : Int)
    ·rw [if_pos c6] at H
     have c6b0 := eq_true c6; have c6b1 : decide (1 ≤ (a0.size : Int)) = true := decide_eq_true c6; clear c6; simp only [Option.some.injEq, Prod.mk.injEq] at H; obtain ⟨rfl, rfl⟩ := H; have p4 : 0 ≤ (0 : Int) := (by omega); have q4 : 0 < a0.size := (by have : (0 : Int) < (a0.size : Int) := od; omega); have hx4 : ∀ h : 0 < a0.size, ((a0[0]'h).toNat : Int) = bt a0 0 := bt_at a0 0; clear p4; have qi4 : (0 < (a0.size : Int)) = True := eq_true (od); replace q4 := eq_true q4; have p7 : 0 ≤ (0 : Int) := (by omega); have q7 : 0 < a0.size := (by have : (0 : Int) < (a0.size : Int) := od; omega); have hx7 : ∀ h : 0 < a0.size, ((a0[0]'h).toNat : Int) = bt a0 0 := bt_at a0 0; clear p7; have qi7 : (0 < (a0.size : Int)) = True := eq_true (od); replace q7 := eq_true q7; go_enter Tryz.func21, Tryz.ntmps21; go_wp2; repeat (go_quiet (fail); try go_wp2)
     go_ret2
     exact ⟨by first | rfl | (simp; done) | (simp [*]; done) | (simp [wrap64]; done) | (simp; (generalize ByteArray.toList _ = z_); cases z_ <;> first | rfl | simp), by repeat (first | exact Drawn0.refl _ | apply Drawn0.step)⟩
    ·rw [if_neg c6] at H
     exact absurd H (by simp)
   ·rw [if_neg c5] at H
    have c5b0 : ((bt a0 0) == 43) = false := beq_eq_false_iff_ne.mpr c5; have c5b1 : ((bt a0 0) != 43) = true := bne_iff_ne.mpr c5; by_cases c9 : (bt a0 0) = 45
    ·rw [if_pos c9] at H
     have c9b0 : ((bt a0 0) == 45) = true := beq_iff_eq.mpr c9; have c9b1 : ((bt a0 0) != 45) = false := bne_eq_false_iff_eq.mpr c9; clear c9; by_cases c10 : 1 ≤ (a0.size : Int)
     ·rw [if_pos c10] at H
      have c10b0 := eq_true c10; have c10b1 : decide (1 ≤ (a0.size : Int)) = true := decide_eq_true c10; clear c10; simp only [Option.some.injEq, Prod.mk.injEq] at H; obtain ⟨rfl, rfl⟩ := H; have p4 : 0 ≤ (0 : Int) := (by omega); have q4 : 0 < a0.size := (by have : (0 : Int) < (a0.size : Int) := od; omega); have hx4 : ∀ h : 0 < a0.size, ((a0[0]'h).toNat : Int) = bt a0 0 := bt_at a0 0; clear p4; have qi4 : (0 < (a0.size : Int)) = True := eq_true (od); replace q4 := eq_true q4; have p8 : 0 ≤ (0 : Int) := (by omega); have q8 : 0 < a0.size := (by have : (0 : Int) < (a0.size : Int) := od; omega); have hx8 : ∀ h : 0 < a0.size, ((a0[0]'h).toNat : Int) = bt a0 0 := bt_at a0 0; clear p8; have qi8 : (0 < (a0.size : Int)) = True := eq_true (od); replace q8 := eq_true q8; have p11 : 0 ≤ (0 : Int) := (by omega); have q11 : 0 < a0.size := (by have : (0 : Int) < (a0.size : Int) := od; omega); have hx11 : ∀ h : 0 < a0.size, ((a0[0]'h).toNat : Int) = bt a0 0 := bt_at a0 0; clear p11; have qi11 : (0 < (a0.size : Int)) = True := eq_true (od); replace q11 := eq_true q11; go_enter Tryz.func21, Tryz.ntmps21; go_wp2; repeat (go_quiet (fail); try go_wp2)
      go_ret2
      exact ⟨by first | rfl | (simp; done) | (simp [*]; done) | (simp [wrap64]; done) | (simp; (generalize ByteArray.toList _ = z_); cases z_ <;> first | rfl | simp), by repeat (first | exact Drawn0.refl _ | apply Drawn0.step)⟩
     ·rw [if_neg c10] at H
      exact absurd H (by simp)
    ·rw [if_neg c9] at H
     have c9b0 : ((bt a0 0) == 45) = false := beq_eq_false_iff_ne.mpr c9; have c9b1 : ((bt a0 0) != 45) = true := bne_iff_ne.mpr c9; simp only [Option.some.injEq, Prod.mk.injEq] at H; obtain ⟨rfl, rfl⟩ := H; have p4 : 0 ≤ (0 : Int) := (by omega); have q4 : 0 < a0.size := (by have : (0 : Int) < (a0.size : Int) := od; omega); have hx4 : ∀ h : 0 < a0.size, ((a0[0]'h).toNat : Int) = bt a0 0 := bt_at a0 0; clear p4; have qi4 : (0 < (a0.size : Int)) = True := eq_true (od); replace q4 := eq_true q4; have p8 : 0 ≤ (0 : Int) := (by omega); have q8 : 0 < a0.size := (by have : (0 : Int) < (a0.size : Int) := od; omega); have hx8 : ∀ h : 0 < a0.size, ((a0[0]'h).toNat : Int) = bt a0 0 := bt_at a0 0; clear p8; have qi8 : (0 < (a0.size : Int)) = True := eq_true (od); replace q8 := eq_true q8; go_enter Tryz.func21, Tryz.ntmps21; go_wp2; repeat (go_quiet (fail); try go_wp2)
     go_ret2
     exact ⟨by first | rfl | (simp; done) | (simp [*]; done) | (simp [wrap64]; done) | (simp; (generalize ByteArray.toList _ = z_); cases z_ <;> first | rfl | simp), by repeat (first | exact Drawn0.refl _ | apply Drawn0.step)⟩
  ·rw [if_neg c3] at H
   exact absurd H (by simp)
 ·rw [if_neg c2] at H
  have c2b0 : decide (0 < (a0.size : Int)) = false := decide_eq_false c2
  have c2b1 : decide (0 < a0.size) = false := decide_eq_false (by omega)
  clear c2
  simp only [Option.some.injEq, Prod.mk.injEq] at H
  obtain ⟨rfl, rfl⟩ := H
  go_enter Tryz.func21, Tryz.ntmps21
  go_wp2
  repeat (go_quiet (fail); try go_wp2)
  go_ret2
  exact ⟨by first | rfl | (simp; done) | (simp [*]; done) | (simp [wrap64]; done) | (simp; (generalize ByteArray.toList _ = z_); cases z_ <;> first | rfl | simp), by repeat (first | exact Drawn0.refl _ | apply Drawn0.step)⟩

end Go.Proofs.YtkijneohhilboaaGreatDoor.PT
