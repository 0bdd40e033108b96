/- Written by this session's own program (xprint, made over the kit's print): Lean functions with the same answers as the Go functions, and the proofs of that. Not trusted: Lean checks it. -/
import Derived.Test.YtkijneohhilboaaGreatDoorPTx0
import Derived.Test.YtkijneohhilboaaGreatDoorPTx9
import Derived.Test.YtkijneohhilboaaGreatDoorXW
import Derived.Test.YtkijneohhilboaaGreatDoorXZ
namespace Go.Proofs.YtkijneohhilboaaGreatDoor.PT
open Go.Proofs.YtkijneohhilboaaGreatDoor.XZ
open Go.Proofs.YtkijneohhilboaaGreatDoor.XW Go.RowKit Go.Proofs.YtkijneohhilboaaGreatDoorW.PrintWords Go.Proofs.YtkijneohhilboaaGreatDoorW.PrintLast Go.Proofs.YtkijneohhilboaaGreatDoorW.PrintMore
attribute [local go_sem] max2_int min2_int max_two min_two max_three min_three max_four min_four   -- for this text's walks alone
set_option linter.unusedVariables false
set_option linter.unusedSimpArgs false

/-! ### targumref4_mulAdd: function 48 -/
mutual
def targumref4_mulAdd.l0 : Nat → ByteArray → Int → List Int → Int → Int → Option (ByteArray)
 | 0, _, _, _, _, _ => none
 | k + 1, x0, x1, x7, x8, x9 => if x9 ≥ 0 then (if 0 ≤ x9 then (if x9 < (x0.size : Int) then (if x9 < (x7.length : Int) then (targumref4_mulAdd.l0 k x0 x1 (x7.set (x9 : Int).toNat ((wrap64 (48 + (Int.tmod (wrap64 (x8 + (wrap64 ((((bt x0 x9) - 48) % 256) * x1)))) 10))) % 256)) (wrap64 (Int.tdiv (wrap64 (x8 + (wrap64 ((((bt x0 x9) - 48) % 256) * x1)))) 10)) (wrap64 (x9 - 1))) else (none)) else (none)) else (none)) else (targumref4_mulAdd.l1 k x7 x8 (⟨#[]⟩ : ByteArray))
def targumref4_mulAdd.l1 : Nat → List Int → Int → ByteArray → Option (ByteArray)
 | 0, _, _, _ => none
 | k + 1, x7, x8, x10 => if x8 > 0 then ((some (([(wrap64 (48 + (Int.tmod x8 10))) % 256] : List Int) : List Int)).bind fun y234 => (if (strOfNums y234).size + x10.size ≤ 9223372036854775807 then (targumref4_mulAdd.l1 k x7 (wrap64 (Int.tdiv x8 10)) ((strOfNums y234) ++ x10)) else (none))) else (if x10.size + (strOfNums x7).size ≤ 9223372036854775807 then ((targumref4_Norm.f k false (x10 ++ (strOfNums x7))).bind fun t237 => (some t237)) else (none))
end
def targumref4_mulAdd.f (k : Nat) (a0 : ByteArray) (a1 : Int) (a2 : Int) : Option (ByteArray) := if 0 ≤ (a0.size : Int) then (if ((a0.size : Int) : Int).toNat ≤ 281474976710656 then (targumref4_mulAdd.l0 k a0 a1 (List.replicate ((a0.size : Int) : Int).toNat 0) a2 (wrap64 ((a0.size : Int) - 1))) else (none)) else (none)
theorem targumref4_mulAdd.mono_l : ∀ k, (∀ y0 y1 y2 y3 y4, LeO (targumref4_mulAdd.l0 k y0 y1 y2 y3 y4) (targumref4_mulAdd.l0 (k + 1) y0 y1 y2 y3 y4)) ∧ (∀ y0 y1 y2, LeO (targumref4_mulAdd.l1 k y0 y1 y2) (targumref4_mulAdd.l1 (k + 1) y0 y1 y2))
 | 0 => ⟨fun _ _ _ _ _ r h => by simp [targumref4_mulAdd.l0] at h, fun _ _ _ r h => by simp [targumref4_mulAdd.l1] at h⟩
 | k + 1 => by
  obtain ⟨ih0, ih1⟩ := targumref4_mulAdd.mono_l k
  refine ⟨?_, ?_⟩
  ·intro y0 y1 y2 y3 y4
   unfold targumref4_mulAdd.l0
   repeat' first | (with_reducible exact ih0 _ _ _ _ _) | (with_reducible exact ih1 _ _ _) | (with_reducible exact targumref4_Norm.mono _ _ _) | (with_reducible exact LeO.refl _) | (with_reducible exact LeO.none _) | (with_reducible refine LeO.ite ?_ ?_) | (with_reducible refine LeO.bind ?_ (fun _ => ?_)) | exact ih0 _ _ _ _ _ | exact ih1 _ _ _ | exact targumref4_Norm.mono _ _ _ | exact LeO.none _ | refine LeO.ite ?_ ?_ | refine LeO.bind ?_ (fun _ => ?_)
  ·intro y0 y1 y2
   unfold targumref4_mulAdd.l1
   repeat' first | (with_reducible exact ih0 _ _ _ _ _) | (with_reducible exact ih1 _ _ _) | (with_reducible exact targumref4_Norm.mono _ _ _) | (with_reducible exact LeO.refl _) | (with_reducible exact LeO.none _) | (with_reducible refine LeO.ite ?_ ?_) | (with_reducible refine LeO.bind ?_ (fun _ => ?_)) | exact ih0 _ _ _ _ _ | exact ih1 _ _ _ | exact targumref4_Norm.mono _ _ _ | exact LeO.none _ | refine LeO.ite ?_ ?_ | refine LeO.bind ?_ (fun _ => ?_)
theorem targumref4_mulAdd.mono : ∀ a0 a1 a2 k, LeO (targumref4_mulAdd.f k a0 a1 a2) (targumref4_mulAdd.f (k + 1) a0 a1 a2) := by
 intro a0 a1 a2 k
 obtain ⟨ih0, ih1⟩ := targumref4_mulAdd.mono_l k
 unfold targumref4_mulAdd.f
 repeat' first | (with_reducible exact ih0 _ _ _ _ _) | (with_reducible exact ih1 _ _ _) | (with_reducible exact targumref4_Norm.mono _ _ _) | (with_reducible exact LeO.refl _) | (with_reducible exact LeO.none _) | (with_reducible refine LeO.ite ?_ ?_) | (with_reducible refine LeO.bind ?_ (fun _ => ?_)) | exact ih0 _ _ _ _ _ | exact ih1 _ _ _ | exact targumref4_Norm.mono _ _ _ | exact LeO.none _ | refine LeO.ite ?_ ?_ | refine LeO.bind ?_ (fun _ => ?_)
set_option maxHeartbeats 8000000 in
set_option maxRecDepth 100000 in
theorem targumref4_mulAdd.calls (k : Nat) (a0 : ByteArray) (a1 : Int) (a2 : Int) (r : ByteArray) (w : World) (h : targumref4_mulAdd.f k a0 a1 a2 = some r) :
  Calls Tryz.prog 48 #[.string a0, .int .i64 a1, .int .i64 a2] w fun e w' => e = .returned (.string r) ∧ Below w.heap.size w w' := by
 have HB := AM (Below.refl w.heap.size w)
 have H : (if 0 ≤ (a0.size : Int) then (if ((a0.size : Int) : Int).toNat ≤ 281474976710656 then (targumref4_mulAdd.l0 k a0 a1 (List.replicate ((a0.size : Int) : Int).toNat 0) a2 (wrap64 ((a0.size : Int) - 1))) else (none)) else (none)) = some r := h
 clear h
 by_cases c4 : 0 ≤ (a0.size : Int)
 ·rw [if_pos c4] at H
  have c4b0 := eq_true c4
  have c4b1 : decide (0 ≤ (a0.size : Int)) = true := decide_eq_true c4
  clear c4
  by_cases c5 : ((a0.size : Int) : Int).toNat ≤ 281474976710656
  ·rw [if_pos c5] at H
   have c5b0 := eq_true c5
   have c5b1 : decide (((a0.size : Int) : Int).toNat ≤ 281474976710656) = true := decide_eq_true c5
   clear c5
   obtain ⟨y230, hy230⟩ : ∃ y_ : List Int, y_ = (List.replicate ((a0.size : Int) : Int).toNat 0) := ⟨_, rfl⟩
   replace H : (targumref4_mulAdd.l0 k a0 a1 y230 a2 (wrap64 ((a0.size : Int) - 1))) = some r := by first | (rw [hy230]; with_reducible exact H) | (have H2_ := (Option.bind_some _ _).symm.trans H; rw [hy230]; with_reducible exact H2_) | (have H2_ := (Option.bind_some _ _).symm.trans H; with_reducible exact H2_) | with_reducible exact H | (rw [hy230]; exact H) | exact H
   have Ny230 := AM hy230
   clear hy230
   have H' := AM H
   clear H
   go_enter Tryz.func48, Tryz.ntmps48
   go_wp2_with (first | ((with_reducible refine gate_dst (N := 13) rfl ?_); refine Kd.R_make (Kd.int .u8) _ 5 rfl (N := 13) rfl 22 _ _ rfl (a0.size : Int) rfl rfl Tryz.underlying22 (.int .u8 0) 1 info5 rfl (by decide) (by omega) 0 (ok := fun _ => True) (okp := fun _ => True) rfl (fun _ hk => hk) trivial (od) (Nat.le_trans (Nat.mul_le_mul_right _ (od : (a0.size : Int).toNat ≤ 281474976710656)) (by omega)) (Below.refl _ _) (Nat.le_refl _) ?_; intro v231 w6 ho7 hb hg_ hnew_; clear hg_ hnew_; (first | rw [← Ny230.out] at ho7 | (simp only [Int.reduceToNat] at ho7; rw [← Ny230.out] at ho7)); have HO232 := AM (Kd.R_lower ho7 (below_size bl)); replace HB := AM (below_step bl hb); clear hb ho7))
   go_loopg [8, 9] k (fun kq v8 v9 w' => ∃ (x7_1 : List Int) (x8_1 : Int) (x9_1 : Int), v8 = .int .i64 x8_1 ∧ v9 = .int .i64 x9_1 ∧ Aside0 (targumref4_mulAdd.l0 kq a0 a1 x7_1 x8_1 x9_1 = some r) ∧ Aside0 (kq ≤ k) ∧ Aside0 (Kd.R (Kd.int .u8) 5 w' w.heap.size (fun _ => True) v231 x7_1) ∧ Aside0 (Below w.heap.size w w'))
   case atStart => exact ⟨(y230), (a2), (wrap64 ((a0.size : Int) - 1)), rq, rq, H', ⟨Nat.le_refl _⟩, ⟨by (with_reducible repeat (first | apply Kd.R_alloc | apply Kd.R_drewN | apply Kd.R_drew)); exact HO232.out⟩, ⟨bl⟩⟩
   case round =>
    clear H'; try clear c4; try clear c4b0; try clear c4b1; try clear c5; try clear c5b0; try clear c5b1
    obtain ⟨x7_1, x8_1, x9_1, rfl, rfl, HA, HK1, HO_7, HB⟩ := hrel; cases gk with
    | zero => exact absurd HA.out (by simp [targumref4_mulAdd.l0])
    | succ k1 =>
     have H := HA.out; clear HA; simp only [targumref4_mulAdd.l0] at H; by_cases c8 : x9_1 ≥ 0
     ·rw [if_pos c8] at H
      have c8b0 : decide (0 ≤ x9_1) = true := decide_eq_true c8; clear c8; by_cases c9 : 0 ≤ x9_1
      ·rw [if_pos c9] at H
       have c9b0 : decide (0 ≤ x9_1) = true := decide_eq_true c9; clear c9; by_cases c10 : x9_1 < (a0.size : Int)
       ·rw [if_pos c10] at H
        have c10b0 : decide (x9_1 < (a0.size : Int)) = true := decide_eq_true c10; clear c10; by_cases c12 : x9_1 < (x7_1.length : Int)
        ·rw [if_pos c12] at H
         have c12b0 : decide (x9_1 < (x7_1.length : Int)) = true := decide_eq_true c12; clear c12; obtain ⟨y233, hy233⟩ : ∃ y_ : List Int, y_ = (x7_1.set (x9_1 : Int).toNat ((wrap64 (48 + (Int.tmod (wrap64 (x8_1 + (wrap64 ((((bt a0 x9_1) - 48) % 256) * a1)))) 10))) % 256)) := ⟨_, rfl⟩; replace H : (targumref4_mulAdd.l0 k1 a0 a1 y233 (wrap64 (Int.tdiv (wrap64 (x8_1 + (wrap64 ((((bt a0 x9_1) - 48) % 256) * a1)))) 10)) (wrap64 (x9_1 - 1))) = some r := by first | (rw [hy233]; with_reducible exact H) | (have H2_ := (Option.bind_some _ _).symm.trans H; rw [hy233]; with_reducible exact H2_) | (have H2_ := (Option.bind_some _ _).symm.trans H; with_reducible exact H2_) | with_reducible exact H | (rw [hy233]; exact H) | exact H
         have Ny233 := AM hy233; clear hy233; have H' := AM H; clear H; have p11 : 0 ≤ (x9_1 : Int) := od; have q11 : x9_1 < (a0.size : Int) := od; have hx11 := bt_at a0 x9_1; replace p11 := eq_true p11; replace q11 := eq_true q11; have p13 : 0 ≤ (x9_1 : Int) := od; have q13 : (x9_1 : Int) < ((x7_1.length : Int) : Int) := od; obtain ⟨go13, co13, eo13, gb13, gl13, cl13, HG13⟩ := Kd.R_form HO_7.out (by omega); (first | cases eo13 | (injection eo13 with ea_ en_ ec_; (first | subst ea_ | (injection ea_ with ea_; subst ea_)); subst ec_; clear en_)); have GB13 := AM gb13; have GG13 := AM HG13; clear gb13 gl13 HG13; obtain ⟨hx13_0, hf13_0⟩ := Kd.R_celln 0 HO_7.out (x9_1 : Int) p13 q13; replace p13 := eq_true p13; replace q13 := eq_true q13; have HP14 := Kd.R_putg HO_7.out (x9_1 : Int) ((wrap64 (48 + (Int.tmod (wrap64 (x8_1 + (wrap64 ((((bt a0 x9_1) - 48) % 256) * a1)))) 10))) % 256); go_wp2_with (first | ((with_reducible refine gate_store (t := 5) (p := 37) rfl ?_); refine store_event (t := 5) (p := 37) (v := ?vow15) (w1 := (wr.setCell ⟨go13, (x9_1 : Int).toNat, none⟩ (.int .u8 ((wrap64 (48 + (Int.tmod (wrap64 (x8_1 + (wrap64 ((((bt a0 x9_1) - 48) % 256) * a1)))) 10))) % 256)))) ?hg ?ho ?hn ?hr ?_; (case ho => rfl); (case hg => rfl); (case hn => rfl); (case hr => first | (go_simp; done) | (go_simp; rfl)); intro w15 hw; have hg : wr.grownBy w15 (some go13) := (by rw [hw]; exact HP14.2); have hp_ : Kd.R (Kd.int .u8) 5 w15 w.heap.size (fun _ => True) (.slice (some ⟨go13, 0, none⟩) x7_1.length co13) y233 := (by rw [hw, Ny233.out]; exact HP14.1); clear HP14; replace HO_7 := AM (hp_); replace HB := AM ((by rw [hw]; exact wS (HB.out) GB13.out : Below w.heap.size w w15)); clear hg hw hp_)); go_roundg k1
         case measure => have := HK1.out; omega
         case rel => exact ⟨(y233), (wrap64 (Int.tdiv (wrap64 (x8_1 + (wrap64 ((((bt a0 x9_1) - 48) % 256) * a1)))) 10)), (wrap64 (x9_1 - 1)), rq, rq, H', ⟨by have := HK1.out; omega⟩, ⟨by (with_reducible repeat (first | apply Kd.R_alloc | apply Kd.R_drewN | apply Kd.R_drew)); exact HO_7.out⟩, ⟨bl⟩⟩
        ·rw [if_neg c12] at H
         exact absurd H (by simp)
       ·rw [if_neg c10] at H
        exact absurd H (by simp)
      ·rw [if_neg c9] at H
       exact absurd H (by simp)
     ·rw [if_neg c8] at H
      have c8b0 : decide (0 ≤ x9_1) = false := decide_eq_false c8; clear c8; have H' := AM H; clear H; go_wp2; go_loopg [8, 10] k1 (fun kq v8 v10 w' => ∃ (x8_2 : Int) (x10_2 : ByteArray), v8 = .int .i64 x8_2 ∧ v10 = .string x10_2 ∧ Aside0 (targumref4_mulAdd.l1 kq x7_1 x8_2 x10_2 = some r) ∧ Aside0 (kq ≤ k1) ∧ Aside0 (Kd.R (Kd.int .u8) 5 w' w.heap.size (fun _ => True) v231 x7_1) ∧ Aside0 (Below w.heap.size w w'))
      case atStart => exact ⟨(x8_1), ((⟨#[]⟩ : ByteArray)), rq, rq, H', ⟨Nat.le_refl _⟩, ⟨by (with_reducible repeat (first | apply Kd.R_alloc | apply Kd.R_drewN | apply Kd.R_drew)); exact HO_7.out⟩, ⟨bl⟩⟩
      case round =>
       clear H'; try clear c4; try clear c4b0; try clear c4b1; try clear c5; try clear c5b0; try clear c5b1; try clear c8; try clear c8b0
       obtain ⟨x8_2, x10_2, rfl, rfl, HA, HK2, HO_7, HB⟩ := hrel; cases gk with
       | zero => exact absurd HA.out (by simp [targumref4_mulAdd.l1])
       | succ k2 =>
        have H := HA.out; clear HA; simp only [targumref4_mulAdd.l1] at H; by_cases c16 : x8_2 > 0
        ·rw [if_pos c16] at H
         have c16b0 : decide (0 < x8_2) = true := decide_eq_true c16; clear c16; obtain ⟨y234, hy234⟩ : ∃ y_ : List Int, y_ = (([(wrap64 (48 + (Int.tmod x8_2 10))) % 256] : List Int)) := ⟨_, rfl⟩; replace H : (if (strOfNums y234).size + x10_2.size ≤ 9223372036854775807 then (targumref4_mulAdd.l1 k2 x7_1 (wrap64 (Int.tdiv x8_2 10)) ((strOfNums y234) ++ x10_2)) else (none)) = some r := by first | (rw [hy234]; with_reducible exact H) | (have H2_ := (Option.bind_some _ _).symm.trans H; rw [hy234]; with_reducible exact H2_) | (have H2_ := (Option.bind_some _ _).symm.trans H; with_reducible exact H2_) | with_reducible exact H | (rw [hy234]; exact H) | exact H
         have Ny234 := AM hy234; clear hy234; by_cases c17 : (strOfNums y234).size + x10_2.size ≤ 9223372036854775807
         ·rw [if_pos c17] at H
          have c17b0 := eq_true c17; have c17b1 : decide ((strOfNums y234).size + x10_2.size ≤ 9223372036854775807) = true := decide_eq_true c17; try have c17b2 : (9223372036854775807 < (strOfNums y234).size + x10_2.size) = False := eq_false (Nat.not_lt.2 c17)
          have H' := AM H; clear H; go_wp2_with (first | ((with_reducible refine gate_dst (N := 46) rfl ?_); refine Kd.R_lit (Kd.int .u8) _ 5 ?hg (N := 46) ?hd (xs := ([(wrap64 (48 + (Int.tmod x8_2 10))) % 256] : List Int)) (inner := [.int .u8 ((wrap64 (48 + (Int.tmod x8_2 10))) % 256)]) (ok := fun _ => True) (okp := fun _ => True) ?hr ?hp (fun _ hk => hk) trivial (Below.refl _ _) (Nat.le_refl _) (by simp) ?_; (case hd => rfl); (case hg => rfl); (case hr => first | (go_simp; done) | (go_simp; rfl)); (case hp => exact (Reps.one (show Kd.M (Kd.int .u8) _ _ _ ((wrap64 (48 + (Int.tmod x8_2 10))) % 256) [.int .u8 ((wrap64 (48 + (Int.tmod x8_2 10))) % 256)] from rfl) (Reps.none _ _))); intro v235 w18 ho19 hb hg_ hnew_; clear hg_ hnew_; (first | rw [← Ny234.out] at ho19 | (simp only [Int.reduceToNat] at ho19; rw [← Ny234.out] at ho19)); have HO236 := AM (Kd.R_lower (Kd.R_new' ho19 (Kd.R_lt (by (with_reducible repeat (first | apply Kd.R_alloc | apply Kd.R_drewN | apply Kd.R_drew)); exact HO_7.out))) (below_size bl)); replace HO_7 := AM (Kd.R_elder' (by (with_reducible repeat (first | apply Kd.R_alloc | apply Kd.R_drewN | apply Kd.R_drew)); exact HO_7.out) (Kd.R_base ho19) hb); replace HB := AM (below_step bl hb); clear hb ho19; have hcv20 := own_string (P := Tryz.prog) Tryz.underlying22 Tryz.underlying5 Tryz.underlying9 (Kd.own_of_R HO236.out)))
          go_roundg k2
          case measure => have := HK1.out; have := HK2.out; omega
          case rel => exact ⟨(wrap64 (Int.tdiv x8_2 10)), ((strOfNums y234) ++ x10_2), rq, rq, H', ⟨by have := HK1.out; have := HK2.out; omega⟩, ⟨by (with_reducible repeat (first | apply Kd.R_alloc | apply Kd.R_drewN | apply Kd.R_drew)); exact Kd.R_mono HO_7.out (fun _ hk => trivial)⟩, ⟨bl⟩⟩
         ·rw [if_neg c17] at H
          exact absurd H (by simp)
        ·rw [if_neg c16] at H
         have c16b0 : decide (0 < x8_2) = false := decide_eq_false c16; clear c16; by_cases c21 : x10_2.size + (strOfNums x7_1).size ≤ 9223372036854775807
         ·rw [if_pos c21] at H
          have c21b0 := eq_true c21; have c21b1 : decide (x10_2.size + (strOfNums x7_1).size ≤ 9223372036854775807) = true := decide_eq_true c21; try have c21b2 : (9223372036854775807 < x10_2.size + (strOfNums x7_1).size) = False := eq_false (Nat.not_lt.2 c21)
          replace H := Option.bind_eq_some_iff.mp H; obtain ⟨t237, A220, H⟩ := H; replace H : (some t237) = some r := H; have A22 := AM A220; clear A220; obtain rfl := Option.some.inj H; have hcv23 := own_string (P := Tryz.prog) Tryz.underlying22 Tryz.underlying5 Tryz.underlying9 (Kd.own_of_R HO_7.out); go_wp2_with (first | ((with_reducible refine gate_callee (f := 13) rfl ?_); refine goesL_ (some 56) rfl rfl Tryz.func13 (by kernel_rfl) rfl #[.bool false, .string (x10_2 ++ (strOfNums x7_1))] rfl am ?_; (with_reducible refine (targumref4_Norm.calls k2 false (x10_2 ++ (strOfNums x7_1)) t237 _ A22.out).mono ?_); rintro e w' ⟨rfl, ⟨nd, rfl⟩⟩; refine ⟨_, rfl, ?_⟩)); go_ret
          exact ⟨ew, bl⟩
         ·rw [if_neg c21] at H
          exact absurd H (by simp)
  ·rw [if_neg c5] at H
   exact absurd H (by simp)
 ·rw [if_neg c4] at H
  exact absurd H (by simp)

/-! ### targumref4_compare: function 49 -/

def targumref4_compare.f (a0 : ByteArray) (a1 : ByteArray) : Option (Int) := some (if a0.size < a1.size then -1 else if a1.size < a0.size then 1 else if Op.bytesLess a0.toList a1.toList = true then -1 else if (a0.toList == a1.toList) = true then 0 else 1)
set_option maxHeartbeats 8000000 in
theorem targumref4_compare.calls (a0 : ByteArray) (a1 : ByteArray) (r : Int) (w : World) (h : targumref4_compare.f a0 a1 = some r) :
  Calls Tryz.prog 49 #[.string a0, .string a1] w fun e w' => e = .returned (.int .i64 r) ∧ Drawn0 w w' := by
 unfold targumref4_compare.f at h
 obtain rfl := Option.some.inj h
 clear h
 by_cases c3 : a0.size < a1.size
 ·rw [if_pos c3]
  have c3b0 : decide ((a0.size : Int) < (a1.size : Int)) = true := decide_eq_true (by omega)
  have c3b1 : decide (a0.size < a1.size) = true := decide_eq_true c3
  clear c3
  go_enter Tryz.func49, Tryz.ntmps49
  go_wp2
  go_ret
  exact ⟨rfl, Drawn0.refl _⟩
 ·rw [if_neg c3]
  have c3b0 : decide ((a0.size : Int) < (a1.size : Int)) = false := decide_eq_false (by omega)
  have c3b1 : decide (a0.size < a1.size) = false := decide_eq_false c3
  by_cases c4 : a1.size < a0.size
  ·rw [if_pos c4]
   have c4b0 : decide ((a1.size : Int) < (a0.size : Int)) = true := decide_eq_true (by omega)
   have c4b1 : decide (a1.size < a0.size) = true := decide_eq_true c4
   clear c3 c4
   go_enter Tryz.func49, Tryz.ntmps49
   go_wp2
   go_ret
   exact ⟨rfl, Drawn0.refl _⟩
  ·rw [if_neg c4]
   have c4b0 : decide ((a1.size : Int) < (a0.size : Int)) = false := decide_eq_false (by omega)
   have c4b1 : decide (a1.size < a0.size) = false := decide_eq_false c4
   clear c3 c4
   by_cases c5 : Op.bytesLess a0.toList a1.toList = true
   ·rw [if_pos c5]
    go_enter Tryz.func49, Tryz.ntmps49; go_wp2; go_ret; exact ⟨rfl, Drawn0.refl _⟩
   ·rw [if_neg c5]
    have c5b : Op.bytesLess a0.toList a1.toList = false := by simpa using c5
    clear c5; by_cases c6 : (a0.toList == a1.toList) = true
    ·rw [if_pos c6]
     go_enter Tryz.func49, Tryz.ntmps49; go_wp2; go_ret; exact ⟨rfl, Drawn0.refl _⟩
    ·rw [if_neg c6]
     have c6b : (a0.toList == a1.toList) = false := by simpa using c6
     clear c6; go_enter Tryz.func49, Tryz.ntmps49; go_wp2; go_ret; exact ⟨rfl, Drawn0.refl _⟩

/-! ### targumref4_less: function 50 -/
def targumref4_less.l0 : Nat → ByteArray → ByteArray → List Int → Int → Int → Option (ByteArray)
 | 0, _, _, _, _, _ => none
 | k + 1, x0, x1, x5, x6, x7 => if x7 < (x0.size : Int) then (if 0 ≤ (wrap64 ((wrap64 ((x0.size : Int) - 1)) - x7)) then (if (wrap64 ((wrap64 ((x0.size : Int) - 1)) - x7)) < (x0.size : Int) then (if x7 < (x1.size : Int) then (if 0 ≤ (wrap64 ((wrap64 ((x1.size : Int) - 1)) - x7)) then (if (wrap64 ((wrap64 ((x1.size : Int) - 1)) - x7)) < (x1.size : Int) then (if (wrap64 ((wrap64 ((((bt x0 (wrap64 ((wrap64 ((x0.size : Int) - 1)) - x7))) - 48) % 256) - x6)) - (((bt x1 (wrap64 ((wrap64 ((x1.size : Int) - 1)) - x7))) - 48) % 256))) < 0 then (if (wrap64 ((wrap64 ((x0.size : Int) - 1)) - x7)) < (x5.length : Int) then (targumref4_less.l0 k x0 x1 (x5.set ((wrap64 ((wrap64 ((x0.size : Int) - 1)) - x7)) : Int).toNat ((wrap64 (48 + (wrap64 ((wrap64 ((wrap64 ((((bt x0 (wrap64 ((wrap64 ((x0.size : Int) - 1)) - x7))) - 48) % 256) - x6)) - (((bt x1 (wrap64 ((wrap64 ((x1.size : Int) - 1)) - x7))) - 48) % 256))) + 10)))) % 256)) 1 (wrap64 (x7 + 1))) else (none)) else (if (wrap64 ((wrap64 ((x0.size : Int) - 1)) - x7)) < (x5.length : Int) then (targumref4_less.l0 k x0 x1 (x5.set ((wrap64 ((wrap64 ((x0.size : Int) - 1)) - x7)) : Int).toNat ((wrap64 (48 + (wrap64 ((wrap64 ((((bt x0 (wrap64 ((wrap64 ((x0.size : Int) - 1)) - x7))) - 48) % 256) - x6)) - (((bt x1 (wrap64 ((wrap64 ((x1.size : Int) - 1)) - x7))) - 48) % 256))))) % 256)) 0 (wrap64 (x7 + 1))) else (none))) else (none)) else (none)) else (if (wrap64 ((((bt x0 (wrap64 ((wrap64 ((x0.size : Int) - 1)) - x7))) - 48) % 256) - x6)) < 0 then (if (wrap64 ((wrap64 ((x0.size : Int) - 1)) - x7)) < (x5.length : Int) then (targumref4_less.l0 k x0 x1 (x5.set ((wrap64 ((wrap64 ((x0.size : Int) - 1)) - x7)) : Int).toNat ((wrap64 (48 + (wrap64 ((wrap64 ((((bt x0 (wrap64 ((wrap64 ((x0.size : Int) - 1)) - x7))) - 48) % 256) - x6)) + 10)))) % 256)) 1 (wrap64 (x7 + 1))) else (none)) else (if (wrap64 ((wrap64 ((x0.size : Int) - 1)) - x7)) < (x5.length : Int) then (targumref4_less.l0 k x0 x1 (x5.set ((wrap64 ((wrap64 ((x0.size : Int) - 1)) - x7)) : Int).toNat ((wrap64 (48 + (wrap64 ((((bt x0 (wrap64 ((wrap64 ((x0.size : Int) - 1)) - x7))) - 48) % 256) - x6)))) % 256)) 0 (wrap64 (x7 + 1))) else (none)))) else (none)) else (none)) else ((targumref4_Norm.f k false (strOfNums x5)).bind fun t241 => (some t241))
def targumref4_less.f (k : Nat) (a0 : ByteArray) (a1 : ByteArray) : Option (ByteArray) := if 0 ≤ (a0.size : Int) then (if ((a0.size : Int) : Int).toNat ≤ 281474976710656 then (targumref4_less.l0 k a0 a1 (List.replicate ((a0.size : Int) : Int).toNat 0) 0 0) else (none)) else (none)
theorem targumref4_less.mono_l : ∀ k, (∀ y0 y1 y2 y3 y4, LeO (targumref4_less.l0 k y0 y1 y2 y3 y4) (targumref4_less.l0 (k + 1) y0 y1 y2 y3 y4))
 | 0 => fun _ _ _ _ _ r h => by simp [targumref4_less.l0] at h
 | k + 1 => by
  have ih0 := targumref4_less.mono_l k
  ·intro y0 y1 y2 y3 y4
   unfold targumref4_less.l0
   repeat' first | (with_reducible exact ih0 _ _ _ _ _) | (with_reducible exact targumref4_Norm.mono _ _ _) | (with_reducible exact LeO.refl _) | (with_reducible exact LeO.none _) | (with_reducible refine LeO.ite ?_ ?_) | (with_reducible refine LeO.bind ?_ (fun _ => ?_)) | exact ih0 _ _ _ _ _ | exact targumref4_Norm.mono _ _ _ | exact LeO.none _ | refine LeO.ite ?_ ?_ | refine LeO.bind ?_ (fun _ => ?_)
theorem targumref4_less.mono : ∀ a0 a1 k, LeO (targumref4_less.f k a0 a1) (targumref4_less.f (k + 1) a0 a1) := by
 intro a0 a1 k
 have ih0 := targumref4_less.mono_l k
 unfold targumref4_less.f
 repeat' first | (with_reducible exact ih0 _ _ _ _ _) | (with_reducible exact targumref4_Norm.mono _ _ _) | (with_reducible exact LeO.refl _) | (with_reducible exact LeO.none _) | (with_reducible refine LeO.ite ?_ ?_) | (with_reducible refine LeO.bind ?_ (fun _ => ?_)) | exact ih0 _ _ _ _ _ | exact targumref4_Norm.mono _ _ _ | exact LeO.none _ | refine LeO.ite ?_ ?_ | refine LeO.bind ?_ (fun _ => ?_)
set_option maxHeartbeats 8000000 in
set_option maxRecDepth 100000 in
theorem targumref4_less.calls (k : Nat) (a0 : ByteArray) (a1 : ByteArray) (r : ByteArray) (w : World) (h : targumref4_less.f k a0 a1 = some r) :
  Calls Tryz.prog 50 #[.string a0, .string a1] w fun e w' => e = .returned (.string r) ∧ Below w.heap.size w w' := by
 have HB := AM (Below.refl w.heap.size w)
 have H : (if 0 ≤ (a0.size : Int) then (if ((a0.size : Int) : Int).toNat ≤ 281474976710656 then (targumref4_less.l0 k a0 a1 (List.replicate ((a0.size : Int) : Int).toNat 0) 0 0) else (none)) else (none)) = some r := h
 clear h
 by_cases c3 : 0 ≤ (a0.size : Int)
 ·rw [if_pos c3] at H
  have c3b0 := eq_true c3
  have c3b1 : decide (0 ≤ (a0.size : Int)) = true := decide_eq_true c3
  clear c3
  by_cases c4 : ((a0.size : Int) : Int).toNat ≤ 281474976710656
  ·rw [if_pos c4] at H
   have c4b0 := eq_true c4
   have c4b1 : decide (((a0.size : Int) : Int).toNat ≤ 281474976710656) = true := decide_eq_true c4
   clear c4
   obtain ⟨y238, hy238⟩ : ∃ y_ : List Int, y_ = (List.replicate ((a0.size : Int) : Int).toNat 0) := ⟨_, rfl⟩
   replace H : (targumref4_less.l0 k a0 a1 y238 0 0) = some r := by first | (rw [hy238]; with_reducible exact H) | (have H2_ := (Option.bind_some _ _).symm.trans H; rw [hy238]; with_reducible exact H2_) | (have H2_ := (Option.bind_some _ _).symm.trans H; with_reducible exact H2_) | with_reducible exact H | (rw [hy238]; exact H) | exact H
   have Ny238 := AM hy238
   clear hy238
   have H' := AM H
   clear H
   go_enter Tryz.func50, Tryz.ntmps50
   go_wp2_with (first | ((with_reducible refine gate_dst (N := 11) rfl ?_); refine Kd.R_make (Kd.int .u8) _ 5 rfl (N := 11) rfl 22 _ _ rfl (a0.size : Int) rfl rfl Tryz.underlying22 (.int .u8 0) 1 info5 rfl (by decide) (by omega) 0 (ok := fun _ => True) (okp := fun _ => True) rfl (fun _ hk => hk) trivial (od) (Nat.le_trans (Nat.mul_le_mul_right _ (od : (a0.size : Int).toNat ≤ 281474976710656)) (by omega)) (Below.refl _ _) (Nat.le_refl _) ?_; intro v239 w5 ho6 hb hg_ hnew_; clear hg_ hnew_; (first | rw [← Ny238.out] at ho6 | (simp only [Int.reduceToNat] at ho6; rw [← Ny238.out] at ho6)); have HO240 := AM (Kd.R_lower ho6 (below_size bl)); replace HB := AM (below_step bl hb); clear hb ho6))
   go_loopg [6, 7] k (fun kq v6 v7 w' => ∃ (x5_1 : List Int) (x6_1 : Int) (x7_1 : Int), v6 = .int .i64 x6_1 ∧ v7 = .int .i64 x7_1 ∧ Aside0 (targumref4_less.l0 kq a0 a1 x5_1 x6_1 x7_1 = some r) ∧ Aside0 (kq ≤ k) ∧ Aside0 (Kd.R (Kd.int .u8) 5 w' w.heap.size (fun _ => True) v239 x5_1) ∧ Aside0 (Below w.heap.size w w'))
   case atStart => exact ⟨(y238), (0), (0), rq, rq, H', ⟨Nat.le_refl _⟩, ⟨by (with_reducible repeat (first | apply Kd.R_alloc | apply Kd.R_drewN | apply Kd.R_drew)); exact HO240.out⟩, ⟨bl⟩⟩
   case round =>
    clear H'; try clear c3; try clear c3b0; try clear c3b1; try clear c4; try clear c4b0; try clear c4b1
    obtain ⟨x5_1, x6_1, x7_1, rfl, rfl, HA, HK1, HO_5, HB⟩ := hrel; cases gk with
    | zero => exact absurd HA.out (by simp [targumref4_less.l0])
    | succ k1 =>
     have H := HA.out; clear HA; simp only [targumref4_less.l0] at H; by_cases c7 : x7_1 < (a0.size : Int)
     ·rw [if_pos c7] at H
      have c7b0 : decide (x7_1 < (a0.size : Int)) = true := decide_eq_true c7; clear c7; obtain ⟨ji8, hji8⟩ : ∃ j_ : Int, (wrap64 ((wrap64 ((a0.size : Int) - 1)) - x7_1)) = j_ := ⟨_, rfl⟩; replace H : (if 0 ≤ (ji8) then (if (ji8) < (a0.size : Int) then (if x7_1 < (a1.size : Int) then (if 0 ≤ (wrap64 ((wrap64 ((a1.size : Int) - 1)) - x7_1)) then (if (wrap64 ((wrap64 ((a1.size : Int) - 1)) - x7_1)) < (a1.size : Int) then (if (wrap64 ((wrap64 ((((bt a0 (ji8)) - 48) % 256) - x6_1)) - (((bt a1 (wrap64 ((wrap64 ((a1.size : Int) - 1)) - x7_1))) - 48) % 256))) < 0 then (if (ji8) < (x5_1.length : Int) then (targumref4_less.l0 k1 a0 a1 (x5_1.set ((ji8) : Int).toNat ((wrap64 (48 + (wrap64 ((wrap64 ((wrap64 ((((bt a0 (ji8)) - 48) % 256) - x6_1)) - (((bt a1 (wrap64 ((wrap64 ((a1.size : Int) - 1)) - x7_1))) - 48) % 256))) + 10)))) % 256)) 1 (wrap64 (x7_1 + 1))) else (none)) else (if (ji8) < (x5_1.length : Int) then (targumref4_less.l0 k1 a0 a1 (x5_1.set ((ji8) : Int).toNat ((wrap64 (48 + (wrap64 ((wrap64 ((((bt a0 (ji8)) - 48) % 256) - x6_1)) - (((bt a1 (wrap64 ((wrap64 ((a1.size : Int) - 1)) - x7_1))) - 48) % 256))))) % 256)) 0 (wrap64 (x7_1 + 1))) else (none))) else (none)) else (none)) else (if (wrap64 ((((bt a0 (ji8)) - 48) % 256) - x6_1)) < 0 then (if (ji8) < (x5_1.length : Int) then (targumref4_less.l0 k1 a0 a1 (x5_1.set ((ji8) : Int).toNat ((wrap64 (48 + (wrap64 ((wrap64 ((((bt a0 (ji8)) - 48) % 256) - x6_1)) + 10)))) % 256)) 1 (wrap64 (x7_1 + 1))) else (none)) else (if (ji8) < (x5_1.length : Int) then (targumref4_less.l0 k1 a0 a1 (x5_1.set ((ji8) : Int).toNat ((wrap64 (48 + (wrap64 ((((bt a0 (ji8)) - 48) % 256) - x6_1)))) % 256)) 0 (wrap64 (x7_1 + 1))) else (none)))) else (none)) else (none)) = some r := by first | (rw [hji8] at H; exact H) | (simp only [hji8] at H ⊢; exact H)
      have hji8w : (IntKind.i64.wrap ((wrap64 ((a0.size : Int) - 1)) - x7_1)) = ji8 := (qi _).trans hji8; by_cases c9 : 0 ≤ (ji8)
      ·rw [if_pos c9] at H
       have c9b0 : decide (0 ≤ (ji8)) = true := decide_eq_true c9; clear c9; by_cases c10 : (ji8) < (a0.size : Int)
       ·rw [if_pos c10] at H
        have c10b0 : decide ((ji8) < (a0.size : Int)) = true := decide_eq_true c10; clear c10; by_cases c12 : x7_1 < (a1.size : Int)
        ·rw [if_pos c12] at H
         have c12b0 : decide (x7_1 < (a1.size : Int)) = true := decide_eq_true c12; clear c12; obtain ⟨ji13, hji13⟩ : ∃ j_ : Int, (wrap64 ((wrap64 ((a1.size : Int) - 1)) - x7_1)) = j_ := ⟨_, rfl⟩; replace H : (if 0 ≤ (ji13) then (if (ji13) < (a1.size : Int) then (if (wrap64 ((wrap64 ((((bt a0 (ji8)) - 48) % 256) - x6_1)) - (((bt a1 (ji13)) - 48) % 256))) < 0 then (if (ji8) < (x5_1.length : Int) then (targumref4_less.l0 k1 a0 a1 (x5_1.set ((ji8) : Int).toNat ((wrap64 (48 + (wrap64 ((wrap64 ((wrap64 ((((bt a0 (ji8)) - 48) % 256) - x6_1)) - (((bt a1 (ji13)) - 48) % 256))) + 10)))) % 256)) 1 (wrap64 (x7_1 + 1))) else (none)) else (if (ji8) < (x5_1.length : Int) then (targumref4_less.l0 k1 a0 a1 (x5_1.set ((ji8) : Int).toNat ((wrap64 (48 + (wrap64 ((wrap64 ((((bt a0 (ji8)) - 48) % 256) - x6_1)) - (((bt a1 (ji13)) - 48) % 256))))) % 256)) 0 (wrap64 (x7_1 + 1))) else (none))) else (none)) else (none)) = some r := by first | (rw [hji13] at H; exact H) | (simp only [hji13] at H ⊢; exact H)
         have hji13w : (IntKind.i64.wrap ((wrap64 ((a1.size : Int) - 1)) - x7_1)) = ji13 := (qi _).trans hji13; by_cases c14 : 0 ≤ (ji13)
         ·rw [if_pos c14] at H
          have c14b0 : decide (0 ≤ (ji13)) = true := decide_eq_true c14; clear c14; by_cases c15 : (ji13) < (a1.size : Int)
          ·rw [if_pos c15] at H
           have c15b0 : decide ((ji13) < (a1.size : Int)) = true := decide_eq_true c15; clear c15; by_cases c17 : (wrap64 ((wrap64 ((((bt a0 (ji8)) - 48) % 256) - x6_1)) - (((bt a1 (ji13)) - 48) % 256))) < 0
           ·rw [if_pos c17] at H
            have c17b0 : decide ((wrap64 ((wrap64 ((((bt a0 (ji8)) - 48) % 256) - x6_1)) - (((bt a1 (ji13)) - 48) % 256))) < 0) = true := decide_eq_true c17; clear c17; by_cases c18 : (ji8) < (x5_1.length : Int)
            ·rw [if_pos c18] at H
             have c18b0 : decide ((ji8) < (x5_1.length : Int)) = true := decide_eq_true c18; clear c18; obtain ⟨y242, hy242⟩ : ∃ y_ : List Int, y_ = (x5_1.set ((ji8) : Int).toNat ((wrap64 (48 + (wrap64 ((wrap64 ((wrap64 ((((bt a0 (ji8)) - 48) % 256) - x6_1)) - (((bt a1 (ji13)) - 48) % 256))) + 10)))) % 256)) := ⟨_, rfl⟩; replace H : (targumref4_less.l0 k1 a0 a1 y242 1 (wrap64 (x7_1 + 1))) = some r := by first | (rw [hy242]; with_reducible exact H) | (have H2_ := (Option.bind_some _ _).symm.trans H; rw [hy242]; with_reducible exact H2_) | (have H2_ := (Option.bind_some _ _).symm.trans H; with_reducible exact H2_) | with_reducible exact H | (rw [hy242]; exact H) | exact H
             have Ny242 := AM hy242; clear hy242; have H' := AM H; clear H; have p11 : 0 ≤ ((ji8) : Int) := od; have q11 : (ji8) < (a0.size : Int) := od; have hx11 := bt_at a0 (ji8); replace p11 := eq_true p11; replace q11 := eq_true q11; have p16 : 0 ≤ ((ji13) : Int) := od; have q16 : (ji13) < (a1.size : Int) := od; have hx16 := bt_at a1 (ji13); replace p16 := eq_true p16; replace q16 := eq_true q16; have p19 : 0 ≤ ((ji8) : Int) := od; have q19 : ((ji8) : Int) < ((x5_1.length : Int) : Int) := od; obtain ⟨go19, co19, eo19, gb19, gl19, cl19, HG19⟩ := Kd.R_form HO_5.out (by omega); (first | cases eo19 | (injection eo19 with ea_ en_ ec_; (first | subst ea_ | (injection ea_ with ea_; subst ea_)); subst ec_; clear en_)); have GB19 := AM gb19; have GG19 := AM HG19; clear gb19 gl19 HG19; obtain ⟨hx19_0, hf19_0⟩ := Kd.R_celln 0 HO_5.out ((ji8) : Int) p19 q19; replace p19 := eq_true p19; replace q19 := eq_true q19; have HP20 := Kd.R_putg HO_5.out ((ji8) : Int) ((wrap64 (48 + (wrap64 ((wrap64 ((wrap64 ((((bt a0 (ji8)) - 48) % 256) - x6_1)) - (((bt a1 (ji13)) - 48) % 256))) + 10)))) % 256); go_wp2_with (first | ((with_reducible refine gate_store (t := 5) (p := 57) rfl ?_); refine store_event (t := 5) (p := 57) (v := ?vow21) (w1 := (wr.setCell ⟨go19, ((ji8) : Int).toNat, none⟩ (.int .u8 ((wrap64 (48 + (wrap64 ((wrap64 ((wrap64 ((((bt a0 (ji8)) - 48) % 256) - x6_1)) - (((bt a1 (ji13)) - 48) % 256))) + 10)))) % 256)))) ?hg ?ho ?hn ?hr ?_; (case ho => rfl); (case hg => rfl); (case hn => rfl); (case hr => first | (go_simp; done) | (go_simp; rfl)); intro w21 hw; have hg : wr.grownBy w21 (some go19) := (by rw [hw]; exact HP20.2); have hp_ : Kd.R (Kd.int .u8) 5 w21 w.heap.size (fun _ => True) (.slice (some ⟨go19, 0, none⟩) x5_1.length co19) y242 := (by rw [hw, Ny242.out]; exact HP20.1); clear HP20; replace HO_5 := AM (hp_); replace HB := AM ((by rw [hw]; exact wS (HB.out) GB19.out : Below w.heap.size w w21)); clear hg hw hp_)); go_roundg k1
             case measure => have := HK1.out; omega
             case rel => exact ⟨(y242), (1), (wrap64 (x7_1 + 1)), rq, rq, H', ⟨by have := HK1.out; omega⟩, ⟨by (with_reducible repeat (first | apply Kd.R_alloc | apply Kd.R_drewN | apply Kd.R_drew)); exact HO_5.out⟩, ⟨bl⟩⟩
            ·rw [if_neg c18] at H
             exact absurd H (by simp)
           ·rw [if_neg c17] at H
            have c17b0 : decide ((wrap64 ((wrap64 ((((bt a0 (ji8)) - 48) % 256) - x6_1)) - (((bt a1 (ji13)) - 48) % 256))) < 0) = false := decide_eq_false c17; clear c17; by_cases c22 : (ji8) < (x5_1.length : Int)
            ·rw [if_pos c22] at H
             have c22b0 : decide ((ji8) < (x5_1.length : Int)) = true := decide_eq_true c22; clear c22; obtain ⟨y243, hy243⟩ : ∃ y_ : List Int, y_ = (x5_1.set ((ji8) : Int).toNat ((wrap64 (48 + (wrap64 ((wrap64 ((((bt a0 (ji8)) - 48) % 256) - x6_1)) - (((bt a1 (ji13)) - 48) % 256))))) % 256)) := ⟨_, rfl⟩; replace H : (targumref4_less.l0 k1 a0 a1 y243 0 (wrap64 (x7_1 + 1))) = some r := by first | (rw [hy243]; with_reducible exact H) | (have H2_ := (Option.bind_some _ _).symm.trans H; rw [hy243]; with_reducible exact H2_) | (have H2_ := (Option.bind_some _ _).symm.trans H; with_reducible exact H2_) | with_reducible exact H | (rw [hy243]; exact H) | exact H
             have Ny243 := AM hy243; clear hy243; have H' := AM H; clear H; have p11 : 0 ≤ ((ji8) : Int) := od; have q11 : (ji8) < (a0.size : Int) := od; have hx11 := bt_at a0 (ji8); replace p11 := eq_true p11; replace q11 := eq_true q11; have p16 : 0 ≤ ((ji13) : Int) := od; have q16 : (ji13) < (a1.size : Int) := od; have hx16 := bt_at a1 (ji13); replace p16 := eq_true p16; replace q16 := eq_true q16; have p23 : 0 ≤ ((ji8) : Int) := od; have q23 : ((ji8) : Int) < ((x5_1.length : Int) : Int) := od; obtain ⟨go23, co23, eo23, gb23, gl23, cl23, HG23⟩ := Kd.R_form HO_5.out (by omega); (first | cases eo23 | (injection eo23 with ea_ en_ ec_; (first | subst ea_ | (injection ea_ with ea_; subst ea_)); subst ec_; clear en_)); have GB23 := AM gb23; have GG23 := AM HG23; clear gb23 gl23 HG23; obtain ⟨hx23_0, hf23_0⟩ := Kd.R_celln 0 HO_5.out ((ji8) : Int) p23 q23; replace p23 := eq_true p23; replace q23 := eq_true q23; have HP24 := Kd.R_putg HO_5.out ((ji8) : Int) ((wrap64 (48 + (wrap64 ((wrap64 ((((bt a0 (ji8)) - 48) % 256) - x6_1)) - (((bt a1 (ji13)) - 48) % 256))))) % 256); go_wp2_with (first | ((with_reducible refine gate_store (t := 5) (p := 57) rfl ?_); refine store_event (t := 5) (p := 57) (v := ?vow25) (w1 := (wr.setCell ⟨go23, ((ji8) : Int).toNat, none⟩ (.int .u8 ((wrap64 (48 + (wrap64 ((wrap64 ((((bt a0 (ji8)) - 48) % 256) - x6_1)) - (((bt a1 (ji13)) - 48) % 256))))) % 256)))) ?hg ?ho ?hn ?hr ?_; (case ho => rfl); (case hg => rfl); (case hn => rfl); (case hr => first | (go_simp; done) | (go_simp; rfl)); intro w25 hw; have hg : wr.grownBy w25 (some go23) := (by rw [hw]; exact HP24.2); have hp_ : Kd.R (Kd.int .u8) 5 w25 w.heap.size (fun _ => True) (.slice (some ⟨go23, 0, none⟩) x5_1.length co23) y243 := (by rw [hw, Ny243.out]; exact HP24.1); clear HP24; replace HO_5 := AM (hp_); replace HB := AM ((by rw [hw]; exact wS (HB.out) GB23.out : Below w.heap.size w w25)); clear hg hw hp_)); go_roundg k1
             case measure => have := HK1.out; omega
             case rel => exact ⟨(y243), (0), (wrap64 (x7_1 + 1)), rq, rq, H', ⟨by have := HK1.out; omega⟩, ⟨by (with_reducible repeat (first | apply Kd.R_alloc | apply Kd.R_drewN | apply Kd.R_drew)); exact HO_5.out⟩, ⟨bl⟩⟩
            ·rw [if_neg c22] at H
             exact absurd H (by simp)
          ·rw [if_neg c15] at H
           exact absurd H (by simp)
         ·rw [if_neg c14] at H
          exact absurd H (by simp)
        ·rw [if_neg c12] at H
         have c12b0 : decide (x7_1 < (a1.size : Int)) = false := decide_eq_false c12; clear c12; by_cases c26 : (wrap64 ((((bt a0 (ji8)) - 48) % 256) - x6_1)) < 0
         ·rw [if_pos c26] at H
          have c26b0 : decide ((wrap64 ((((bt a0 (ji8)) - 48) % 256) - x6_1)) < 0) = true := decide_eq_true c26; clear c26; by_cases c27 : (ji8) < (x5_1.length : Int)
          ·rw [if_pos c27] at H
           have c27b0 : decide ((ji8) < (x5_1.length : Int)) = true := decide_eq_true c27; clear c27; obtain ⟨y244, hy244⟩ : ∃ y_ : List Int, y_ = (x5_1.set ((ji8) : Int).toNat ((wrap64 (48 + (wrap64 ((wrap64 ((((bt a0 (ji8)) - 48) % 256) - x6_1)) + 10)))) % 256)) := ⟨_, rfl⟩; replace H : (targumref4_less.l0 k1 a0 a1 y244 1 (wrap64 (x7_1 + 1))) = some r := by first | (rw [hy244]; with_reducible exact H) | (have H2_ := (Option.bind_some _ _).symm.trans H; rw [hy244]; with_reducible exact H2_) | (have H2_ := (Option.bind_some _ _).symm.trans H; with_reducible exact H2_) | with_reducible exact H | (rw [hy244]; exact H) | exact H
           have Ny244 := AM hy244; clear hy244; have H' := AM H; clear H; have p11 : 0 ≤ ((ji8) : Int) := od; have q11 : (ji8) < (a0.size : Int) := od; have hx11 := bt_at a0 (ji8); replace p11 := eq_true p11; replace q11 := eq_true q11; have p28 : 0 ≤ ((ji8) : Int) := od; have q28 : ((ji8) : Int) < ((x5_1.length : Int) : Int) := od; obtain ⟨go28, co28, eo28, gb28, gl28, cl28, HG28⟩ := Kd.R_form HO_5.out (by omega); (first | cases eo28 | (injection eo28 with ea_ en_ ec_; (first | subst ea_ | (injection ea_ with ea_; subst ea_)); subst ec_; clear en_)); have GB28 := AM gb28; have GG28 := AM HG28; clear gb28 gl28 HG28; obtain ⟨hx28_0, hf28_0⟩ := Kd.R_celln 0 HO_5.out ((ji8) : Int) p28 q28; replace p28 := eq_true p28; replace q28 := eq_true q28; have HP29 := Kd.R_putg HO_5.out ((ji8) : Int) ((wrap64 (48 + (wrap64 ((wrap64 ((((bt a0 (ji8)) - 48) % 256) - x6_1)) + 10)))) % 256); go_wp2_with (first | ((with_reducible refine gate_store (t := 5) (p := 57) rfl ?_); refine store_event (t := 5) (p := 57) (v := ?vow30) (w1 := (wr.setCell ⟨go28, ((ji8) : Int).toNat, none⟩ (.int .u8 ((wrap64 (48 + (wrap64 ((wrap64 ((((bt a0 (ji8)) - 48) % 256) - x6_1)) + 10)))) % 256)))) ?hg ?ho ?hn ?hr ?_; (case ho => rfl); (case hg => rfl); (case hn => rfl); (case hr => first | (go_simp; done) | (go_simp; rfl)); intro w30 hw; have hg : wr.grownBy w30 (some go28) := (by rw [hw]; exact HP29.2); have hp_ : Kd.R (Kd.int .u8) 5 w30 w.heap.size (fun _ => True) (.slice (some ⟨go28, 0, none⟩) x5_1.length co28) y244 := (by rw [hw, Ny244.out]; exact HP29.1); clear HP29; replace HO_5 := AM (hp_); replace HB := AM ((by rw [hw]; exact wS (HB.out) GB28.out : Below w.heap.size w w30)); clear hg hw hp_)); go_roundg k1
           case measure => have := HK1.out; omega
           case rel => exact ⟨(y244), (1), (wrap64 (x7_1 + 1)), rq, rq, H', ⟨by have := HK1.out; omega⟩, ⟨by (with_reducible repeat (first | apply Kd.R_alloc | apply Kd.R_drewN | apply Kd.R_drew)); exact HO_5.out⟩, ⟨bl⟩⟩
          ·rw [if_neg c27] at H
           exact absurd H (by simp)
         ·rw [if_neg c26] at H
          have c26b0 : decide ((wrap64 ((((bt a0 (ji8)) - 48) % 256) - x6_1)) < 0) = false := decide_eq_false c26; clear c26; by_cases c31 : (ji8) < (x5_1.length : Int)
          ·rw [if_pos c31] at H
           have c31b0 : decide ((ji8) < (x5_1.length : Int)) = true := decide_eq_true c31; clear c31; obtain ⟨y245, hy245⟩ : ∃ y_ : List Int, y_ = (x5_1.set ((ji8) : Int).toNat ((wrap64 (48 + (wrap64 ((((bt a0 (ji8)) - 48) % 256) - x6_1)))) % 256)) := ⟨_, rfl⟩; replace H : (targumref4_less.l0 k1 a0 a1 y245 0 (wrap64 (x7_1 + 1))) = some r := by first | (rw [hy245]; with_reducible exact H) | (have H2_ := (Option.bind_some _ _).symm.trans H; rw [hy245]; with_reducible exact H2_) | (have H2_ := (Option.bind_some _ _).symm.trans H; with_reducible exact H2_) | with_reducible exact H | (rw [hy245]; exact H) | exact H
           have Ny245 := AM hy245; clear hy245; have H' := AM H; clear H; have p11 : 0 ≤ ((ji8) : Int) := od; have q11 : (ji8) < (a0.size : Int) := od; have hx11 := bt_at a0 (ji8); replace p11 := eq_true p11; replace q11 := eq_true q11; have p32 : 0 ≤ ((ji8) : Int) := od; have q32 : ((ji8) : Int) < ((x5_1.length : Int) : Int) := od; obtain ⟨go32, co32, eo32, gb32, gl32, cl32, HG32⟩ := Kd.R_form HO_5.out (by omega); (first | cases eo32 | (injection eo32 with ea_ en_ ec_; (first | subst ea_ | (injection ea_ with ea_; subst ea_)); subst ec_; clear en_)); have GB32 := AM gb32; have GG32 := AM HG32; clear gb32 gl32 HG32; obtain ⟨hx32_0, hf32_0⟩ := Kd.R_celln 0 HO_5.out ((ji8) : Int) p32 q32; replace p32 := eq_true p32; replace q32 := eq_true q32; have HP33 := Kd.R_putg HO_5.out ((ji8) : Int) ((wrap64 (48 + (wrap64 ((((bt a0 (ji8)) - 48) % 256) - x6_1)))) % 256); go_wp2_with (first | ((with_reducible refine gate_store (t := 5) (p := 57) rfl ?_); refine store_event (t := 5) (p := 57) (v := ?vow34) (w1 := (wr.setCell ⟨go32, ((ji8) : Int).toNat, none⟩ (.int .u8 ((wrap64 (48 + (wrap64 ((((bt a0 (ji8)) - 48) % 256) - x6_1)))) % 256)))) ?hg ?ho ?hn ?hr ?_; (case ho => rfl); (case hg => rfl); (case hn => rfl); (case hr => first | (go_simp; done) | (go_simp; rfl)); intro w34 hw; have hg : wr.grownBy w34 (some go32) := (by rw [hw]; exact HP33.2); have hp_ : Kd.R (Kd.int .u8) 5 w34 w.heap.size (fun _ => True) (.slice (some ⟨go32, 0, none⟩) x5_1.length co32) y245 := (by rw [hw, Ny245.out]; exact HP33.1); clear HP33; replace HO_5 := AM (hp_); replace HB := AM ((by rw [hw]; exact wS (HB.out) GB32.out : Below w.heap.size w w34)); clear hg hw hp_)); go_roundg k1
           case measure => have := HK1.out; omega
           case rel => exact ⟨(y245), (0), (wrap64 (x7_1 + 1)), rq, rq, H', ⟨by have := HK1.out; omega⟩, ⟨by (with_reducible repeat (first | apply Kd.R_alloc | apply Kd.R_drewN | apply Kd.R_drew)); exact HO_5.out⟩, ⟨bl⟩⟩
          ·rw [if_neg c31] at H
           exact absurd H (by simp)
       ·rw [if_neg c10] at H
        exact absurd H (by simp)
      ·rw [if_neg c9] at H
       exact absurd H (by simp)
     ·rw [if_neg c7] at H
      have c7b0 : decide (x7_1 < (a0.size : Int)) = false := decide_eq_false c7; clear c7; replace H := Option.bind_eq_some_iff.mp H; obtain ⟨t241, A350, H⟩ := H; replace H : (some t241) = some r := H; have A35 := AM A350; clear A350; obtain rfl := Option.some.inj H; have hcv36 := own_string (P := Tryz.prog) Tryz.underlying22 Tryz.underlying5 Tryz.underlying9 (Kd.own_of_R HO_5.out); go_wp2_with (first | ((with_reducible refine gate_callee (f := 13) rfl ?_); refine goesL_ (some 60) rfl rfl Tryz.func13 (by kernel_rfl) rfl #[.bool false, .string (strOfNums x5_1)] rfl am ?_; (with_reducible refine (targumref4_Norm.calls k1 false (strOfNums x5_1) t241 _ A35.out).mono ?_); rintro e w' ⟨rfl, ⟨nd, rfl⟩⟩; refine ⟨_, rfl, ?_⟩)); go_ret
      exact ⟨ew, bl⟩
  ·rw [if_neg c4] at H
   exact absurd H (by simp)
 ·rw [if_neg c3] at H
  exact absurd H (by simp)

end Go.Proofs.YtkijneohhilboaaGreatDoor.PT
