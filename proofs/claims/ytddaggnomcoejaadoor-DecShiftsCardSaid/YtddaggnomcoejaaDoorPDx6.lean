/- Written by this session's own program (xprint, made over the kit's print): Lean functions with the same answers as the Go functions, and the proofs of that. Not trusted: Lean checks it. -/
import Derived.Test.YtddaggnomcoejaaDoorPDx0
import Derived.Test.YtddaggnomcoejaaDoorPDx5
import Derived.Test.YtddaggnomcoejaaDoorXW
namespace Go.Proofs.YtddaggnomcoejaaDoor.PD
open Go.Proofs.YtddaggnomcoejaaDoor.XW Go.RowKit Go.Proofs.YtddaggnomcoejaaDoorW.PrintWords Go.Proofs.YtddaggnomcoejaaDoorW.PrintLast Go.Proofs.YtddaggnomcoejaaDoorW.PrintMore
attribute [local go_sem] max2_int min2_int max_two min_two max_three min_three max_four min_four   -- for this text's walks alone
set_option linter.unusedVariables false
set_option linter.unusedSimpArgs false

/-! ### targumref4_less: function 53 -/
def targumref4_less.l0 : Nat → ByteArray → ByteArray → List Int → Int → Int → Option (ByteArray)
 | 0, _, _, _, _, _ => none
 | k + 1, x0, x1, x5, x6, x7 => if x7 < (x0.size : Int) then (if 0 ≤ (wrap64 ((wrap64 ((x0.size : Int) - 1)) - x7)) then (if (wrap64 ((wrap64 ((x0.size : Int) - 1)) - x7)) < (x0.size : Int) then (if x7 < (x1.size : Int) then (if 0 ≤ (wrap64 ((wrap64 ((x1.size : Int) - 1)) - x7)) then (if (wrap64 ((wrap64 ((x1.size : Int) - 1)) - x7)) < (x1.size : Int) then (if (wrap64 ((wrap64 ((((bt x0 (wrap64 ((wrap64 ((x0.size : Int) - 1)) - x7))) - 48) % 256) - x6)) - (((bt x1 (wrap64 ((wrap64 ((x1.size : Int) - 1)) - x7))) - 48) % 256))) < 0 then (if (wrap64 ((wrap64 ((x0.size : Int) - 1)) - x7)) < (x5.length : Int) then (targumref4_less.l0 k x0 x1 (x5.set ((wrap64 ((wrap64 ((x0.size : Int) - 1)) - x7)) : Int).toNat ((wrap64 (48 + (wrap64 ((wrap64 ((wrap64 ((((bt x0 (wrap64 ((wrap64 ((x0.size : Int) - 1)) - x7))) - 48) % 256) - x6)) - (((bt x1 (wrap64 ((wrap64 ((x1.size : Int) - 1)) - x7))) - 48) % 256))) + 10)))) % 256)) 1 (wrap64 (x7 + 1))) else (none)) else (if (wrap64 ((wrap64 ((x0.size : Int) - 1)) - x7)) < (x5.length : Int) then (targumref4_less.l0 k x0 x1 (x5.set ((wrap64 ((wrap64 ((x0.size : Int) - 1)) - x7)) : Int).toNat ((wrap64 (48 + (wrap64 ((wrap64 ((((bt x0 (wrap64 ((wrap64 ((x0.size : Int) - 1)) - x7))) - 48) % 256) - x6)) - (((bt x1 (wrap64 ((wrap64 ((x1.size : Int) - 1)) - x7))) - 48) % 256))))) % 256)) 0 (wrap64 (x7 + 1))) else (none))) else (none)) else (none)) else (if (wrap64 ((((bt x0 (wrap64 ((wrap64 ((x0.size : Int) - 1)) - x7))) - 48) % 256) - x6)) < 0 then (if (wrap64 ((wrap64 ((x0.size : Int) - 1)) - x7)) < (x5.length : Int) then (targumref4_less.l0 k x0 x1 (x5.set ((wrap64 ((wrap64 ((x0.size : Int) - 1)) - x7)) : Int).toNat ((wrap64 (48 + (wrap64 ((wrap64 ((((bt x0 (wrap64 ((wrap64 ((x0.size : Int) - 1)) - x7))) - 48) % 256) - x6)) + 10)))) % 256)) 1 (wrap64 (x7 + 1))) else (none)) else (if (wrap64 ((wrap64 ((x0.size : Int) - 1)) - x7)) < (x5.length : Int) then (targumref4_less.l0 k x0 x1 (x5.set ((wrap64 ((wrap64 ((x0.size : Int) - 1)) - x7)) : Int).toNat ((wrap64 (48 + (wrap64 ((((bt x0 (wrap64 ((wrap64 ((x0.size : Int) - 1)) - x7))) - 48) % 256) - x6)))) % 256)) 0 (wrap64 (x7 + 1))) else (none)))) else (none)) else (none)) else ((targumref4_Norm.f k false (strOfNums x5)).bind fun t202 => (some t202))
def targumref4_less.f (k : Nat) (a0 : ByteArray) (a1 : ByteArray) : Option (ByteArray) := if 0 ≤ (a0.size : Int) then (if ((a0.size : Int) : Int).toNat ≤ 281474976710656 then (targumref4_less.l0 k a0 a1 (List.replicate ((a0.size : Int) : Int).toNat 0) 0 0) else (none)) else (none)
theorem targumref4_less.mono_l : ∀ k, (∀ y0 y1 y2 y3 y4, LeO (targumref4_less.l0 k y0 y1 y2 y3 y4) (targumref4_less.l0 (k + 1) y0 y1 y2 y3 y4))
 | 0 => fun _ _ _ _ _ r h => by simp [targumref4_less.l0] at h
 | k + 1 => by
  have ih0 := targumref4_less.mono_l k
  ·intro y0 y1 y2 y3 y4
   unfold targumref4_less.l0
   repeat' first
   | (with_reducible exact ih0 _ _ _ _ _)
   | (with_reducible exact targumref4_Norm.mono _ _ _)
   | (with_reducible exact LeO.refl _)
   | (with_reducible exact LeO.none _)
   | (with_reducible refine LeO.ite ?_ ?_)
   | (with_reducible refine LeO.bind ?_ (fun _ => ?_))
   | exact ih0 _ _ _ _ _
   | exact targumref4_Norm.mono _ _ _
   | exact LeO.none _
   | refine LeO.ite ?_ ?_
   | refine LeO.bind ?_ (fun _ => ?_)
theorem targumref4_less.mono : ∀ a0 a1 k, LeO (targumref4_less.f k a0 a1) (targumref4_less.f (k + 1) a0 a1) := by
 intro a0 a1 k
 have ih0 := targumref4_less.mono_l k
 unfold targumref4_less.f
 repeat' first
   | (with_reducible exact ih0 _ _ _ _ _)
   | (with_reducible exact targumref4_Norm.mono _ _ _)
   | (with_reducible exact LeO.refl _)
   | (with_reducible exact LeO.none _)
   | (with_reducible refine LeO.ite ?_ ?_)
   | (with_reducible refine LeO.bind ?_ (fun _ => ?_))
   | exact ih0 _ _ _ _ _
   | exact targumref4_Norm.mono _ _ _
   | exact LeO.none _
   | refine LeO.ite ?_ ?_
   | refine LeO.bind ?_ (fun _ => ?_)
set_option maxHeartbeats 8000000 in
set_option maxRecDepth 100000 in
theorem targumref4_less.calls (k : Nat) (a0 : ByteArray) (a1 : ByteArray) (r : ByteArray) (w : World) (h : targumref4_less.f k a0 a1 = some r) :
  Calls Tryd.prog 53 #[.string a0, .string a1] w fun e w' => e = .returned (.string r) ∧ Below w.heap.size w w' := by
 have HB := Aside0.mk (Below.refl w.heap.size w)
 have H : (if 0 ≤ (a0.size : Int) then (if ((a0.size : Int) : Int).toNat ≤ 281474976710656 then (targumref4_less.l0 k a0 a1 (List.replicate ((a0.size : Int) : Int).toNat 0) 0 0) else (none)) else (none)) = some r := h
 clear h
 by_cases c3 : 0 ≤ (a0.size : Int)
 ·rw [if_pos c3] at H
  have c3b0 := eq_true c3
  have c3b1 : decide (0 ≤ (a0.size : Int)) = true := decide_eq_true c3
  clear c3
  by_cases c4 : ((a0.size : Int) : Int).toNat ≤ 281474976710656
  ·rw [if_pos c4] at H
   have c4b0 := eq_true c4
   have c4b1 : decide (((a0.size : Int) : Int).toNat ≤ 281474976710656) = true := decide_eq_true c4
   clear c4
   obtain ⟨y199, hy199⟩ : ∃ y_ : List Int, y_ = (List.replicate ((a0.size : Int) : Int).toNat 0) := ⟨_, rfl⟩
   replace H : (targumref4_less.l0 k a0 a1 y199 0 0) = some r := by first | (rw [hy199]; with_reducible exact H) | (have H2_ := (Option.bind_some _ _).symm.trans H; rw [hy199]; with_reducible exact H2_) | (have H2_ := (Option.bind_some _ _).symm.trans H; with_reducible exact H2_) | with_reducible exact H | (rw [hy199]; exact H) | exact H
   have Ny199 := Aside0.mk hy199
   clear hy199
   have H' := Aside0.mk H
   clear H
   go_enter Tryd.func53, Tryd.ntmps53
   go_wp2_with (first | ((with_reducible refine gate_dst (N := 11) rfl ?_); refine Kd.R_make (Kd.int .u8) _ 5 rfl (N := 11) rfl 31 _ _ rfl (a0.size : Int) rfl rfl Tryd.underlying31 (.int .u8 0) 1 info5 rfl (by decide) (by omega) 0 (ok := fun _ => True) (okp := fun _ => True) rfl (fun _ hk => hk) trivial (of_decide_eq_true (by first | (with_reducible assumption) | assumption)) (Nat.le_trans (Nat.mul_le_mul_right _ (of_decide_eq_true (by first | (with_reducible assumption) | assumption) : (a0.size : Int).toNat ≤ 281474976710656)) (by omega)) (Below.refl _ _) (Nat.le_refl _) ?_; intro v200 w5 ho6 hb hg_ hnew_; clear hg_ hnew_; (first | rw [← Ny199.out] at ho6 | (simp only [Int.reduceToNat] at ho6; rw [← Ny199.out] at ho6)); have n0_ := Aside0.mk (Kd.R_lower ho6 (below_size bl)); have n1_ := Aside0.mk (below_step bl hb); clear HB; have HO201 := n0_; have HB := n1_; clear n0_ n1_; clear hb ho6))
   go_loopg [6, 7] k (fun kq v6 v7 w' => ∃ (x5_1 : List Int) (x6_1 : Int) (x7_1 : Int), v6 = .int .i64 x6_1 ∧ v7 = .int .i64 x7_1 ∧ Aside0 (targumref4_less.l0 kq a0 a1 x5_1 x6_1 x7_1 = some r) ∧ Aside0 (kq ≤ k) ∧ Aside0 (Kd.R (Kd.int .u8) 5 w' w.heap.size (fun _ => True) v200 x5_1) ∧ Aside0 (Below w.heap.size w w'))
   case atStart => exact ⟨(y199), (0), (0), (by first | rfl | (simp; done) | (simp [*]; done) | (simp [wrap64]; done)), (by first | rfl | (simp; done) | (simp [*]; done) | (simp [wrap64]; done)), H', ⟨Nat.le_refl _⟩, ⟨by (with_reducible repeat (first | apply Kd.R_alloc | apply Kd.R_drewN | apply Kd.R_drew)); exact HO201.out⟩, ⟨bl⟩⟩
   case round =>
    clear H'
    try clear p2; try clear c3; try clear c3b0; try clear c3b1; try clear c4; try clear c4b0; try clear c4b1; try clear c5
    obtain ⟨x5_1, x6_1, x7_1, rfl, rfl, HA, HK1, HO_5, HB⟩ := hrel
    cases gk with
    | zero => exact absurd HA.out (by simp [targumref4_less.l0])
    | succ k1 =>
     have H := HA.out
     clear HA
     simp only [targumref4_less.l0] at H
     by_cases c7 : x7_1 < (a0.size : Int)
     ·rw [if_pos c7] at H
      have c7b0 : decide (x7_1 < (a0.size : Int)) = true := decide_eq_true c7
      clear c7
      obtain ⟨ji8, hji8⟩ : ∃ j_ : Int, (wrap64 ((wrap64 ((a0.size : Int) - 1)) - x7_1)) = j_ := ⟨_, rfl⟩
      replace H : (if 0 ≤ (ji8) then (if (ji8) < (a0.size : Int) then (if x7_1 < (a1.size : Int) then (if 0 ≤ (wrap64 ((wrap64 ((a1.size : Int) - 1)) - x7_1)) then (if (wrap64 ((wrap64 ((a1.size : Int) - 1)) - x7_1)) < (a1.size : Int) then (if (wrap64 ((wrap64 ((((bt a0 (ji8)) - 48) % 256) - x6_1)) - (((bt a1 (wrap64 ((wrap64 ((a1.size : Int) - 1)) - x7_1))) - 48) % 256))) < 0 then (if (ji8) < (x5_1.length : Int) then (targumref4_less.l0 k1 a0 a1 (x5_1.set ((ji8) : Int).toNat ((wrap64 (48 + (wrap64 ((wrap64 ((wrap64 ((((bt a0 (ji8)) - 48) % 256) - x6_1)) - (((bt a1 (wrap64 ((wrap64 ((a1.size : Int) - 1)) - x7_1))) - 48) % 256))) + 10)))) % 256)) 1 (wrap64 (x7_1 + 1))) else (none)) else (if (ji8) < (x5_1.length : Int) then (targumref4_less.l0 k1 a0 a1 (x5_1.set ((ji8) : Int).toNat ((wrap64 (48 + (wrap64 ((wrap64 ((((bt a0 (ji8)) - 48) % 256) - x6_1)) - (((bt a1 (wrap64 ((wrap64 ((a1.size : Int) - 1)) - x7_1))) - 48) % 256))))) % 256)) 0 (wrap64 (x7_1 + 1))) else (none))) else (none)) else (none)) else (if (wrap64 ((((bt a0 (ji8)) - 48) % 256) - x6_1)) < 0 then (if (ji8) < (x5_1.length : Int) then (targumref4_less.l0 k1 a0 a1 (x5_1.set ((ji8) : Int).toNat ((wrap64 (48 + (wrap64 ((wrap64 ((((bt a0 (ji8)) - 48) % 256) - x6_1)) + 10)))) % 256)) 1 (wrap64 (x7_1 + 1))) else (none)) else (if (ji8) < (x5_1.length : Int) then (targumref4_less.l0 k1 a0 a1 (x5_1.set ((ji8) : Int).toNat ((wrap64 (48 + (wrap64 ((((bt a0 (ji8)) - 48) % 256) - x6_1)))) % 256)) 0 (wrap64 (x7_1 + 1))) else (none)))) else (none)) else (none)) = some r := by first | (rw [hji8] at H; exact H) | (simp only [hji8] at H ⊢; exact H)
      have hji8w : (IntKind.i64.wrap ((wrap64 ((a0.size : Int) - 1)) - x7_1)) = ji8 := (i64_w _).trans hji8
      by_cases c9 : 0 ≤ (ji8)
      ·rw [if_pos c9] at H
       have c9b0 : decide (0 ≤ (ji8)) = true := decide_eq_true c9
       clear c9
       by_cases c10 : (ji8) < (a0.size : Int)
       ·rw [if_pos c10] at H
        have c10b0 : decide ((ji8) < (a0.size : Int)) = true := decide_eq_true c10
        clear c10
        by_cases c12 : x7_1 < (a1.size : Int)
        ·rw [if_pos c12] at H
         have c12b0 : decide (x7_1 < (a1.size : Int)) = true := decide_eq_true c12
         clear c12
         obtain ⟨ji13, hji13⟩ : ∃ j_ : Int, (wrap64 ((wrap64 ((a1.size : Int) - 1)) - x7_1)) = j_ := ⟨_, rfl⟩
         replace H : (if 0 ≤ (ji13) then (if (ji13) < (a1.size : Int) then (if (wrap64 ((wrap64 ((((bt a0 (ji8)) - 48) % 256) - x6_1)) - (((bt a1 (ji13)) - 48) % 256))) < 0 then (if (ji8) < (x5_1.length : Int) then (targumref4_less.l0 k1 a0 a1 (x5_1.set ((ji8) : Int).toNat ((wrap64 (48 + (wrap64 ((wrap64 ((wrap64 ((((bt a0 (ji8)) - 48) % 256) - x6_1)) - (((bt a1 (ji13)) - 48) % 256))) + 10)))) % 256)) 1 (wrap64 (x7_1 + 1))) else (none)) else (if (ji8) < (x5_1.length : Int) then (targumref4_less.l0 k1 a0 a1 (x5_1.set ((ji8) : Int).toNat ((wrap64 (48 + (wrap64 ((wrap64 ((((bt a0 (ji8)) - 48) % 256) - x6_1)) - (((bt a1 (ji13)) - 48) % 256))))) % 256)) 0 (wrap64 (x7_1 + 1))) else (none))) else (none)) else (none)) = some r := by first | (rw [hji13] at H; exact H) | (simp only [hji13] at H ⊢; exact H)
         have hji13w : (IntKind.i64.wrap ((wrap64 ((a1.size : Int) - 1)) - x7_1)) = ji13 := (i64_w _).trans hji13
         by_cases c14 : 0 ≤ (ji13)
         ·rw [if_pos c14] at H
          have c14b0 : decide (0 ≤ (ji13)) = true := decide_eq_true c14
          clear c14
          by_cases c15 : (ji13) < (a1.size : Int)
          ·rw [if_pos c15] at H
           have c15b0 : decide ((ji13) < (a1.size : Int)) = true := decide_eq_true c15
           clear c15
           by_cases c17 : (wrap64 ((wrap64 ((((bt a0 (ji8)) - 48) % 256) - x6_1)) - (((bt a1 (ji13)) - 48) % 256))) < 0
           ·rw [if_pos c17] at H
            have c17b0 : decide ((wrap64 ((wrap64 ((((bt a0 (ji8)) - 48) % 256) - x6_1)) - (((bt a1 (ji13)) - 48) % 256))) < 0) = true := decide_eq_true c17
            clear c17
            by_cases c18 : (ji8) < (x5_1.length : Int)
            ·rw [if_pos c18] at H
             have c18b0 : decide ((ji8) < (x5_1.length : Int)) = true := decide_eq_true c18
             clear c18
             obtain ⟨y203, hy203⟩ : ∃ y_ : List Int, y_ = (x5_1.set ((ji8) : Int).toNat ((wrap64 (48 + (wrap64 ((wrap64 ((wrap64 ((((bt a0 (ji8)) - 48) % 256) - x6_1)) - (((bt a1 (ji13)) - 48) % 256))) + 10)))) % 256)) := ⟨_, rfl⟩
             replace H : (targumref4_less.l0 k1 a0 a1 y203 1 (wrap64 (x7_1 + 1))) = some r := by first | (rw [hy203]; with_reducible exact H) | (have H2_ := (Option.bind_some _ _).symm.trans H; rw [hy203]; with_reducible exact H2_) | (have H2_ := (Option.bind_some _ _).symm.trans H; with_reducible exact H2_) | with_reducible exact H | (rw [hy203]; exact H) | exact H
             have Ny203 := Aside0.mk hy203
             clear hy203
             have H' := Aside0.mk H
             clear H
             have p11 : 0 ≤ ((ji8) : Int) := of_decide_eq_true (by first | (with_reducible assumption) | assumption)
             have q11 : (ji8) < (a0.size : Int) := of_decide_eq_true (by first | (with_reducible assumption) | assumption)
             have hx11 := bt_at a0 (ji8)
             replace p11 := eq_true p11
             replace q11 := eq_true q11
             have p16 : 0 ≤ ((ji13) : Int) := of_decide_eq_true (by first | (with_reducible assumption) | assumption)
             have q16 : (ji13) < (a1.size : Int) := of_decide_eq_true (by first | (with_reducible assumption) | assumption)
             have hx16 := bt_at a1 (ji13)
             replace p16 := eq_true p16
             replace q16 := eq_true q16
             have p19 : 0 ≤ ((ji8) : Int) := of_decide_eq_true (by first | (with_reducible assumption) | assumption)
             have q19 : ((ji8) : Int) < ((x5_1.length : Int) : Int) := of_decide_eq_true (by first | (with_reducible assumption) | assumption)
             obtain ⟨go19, co19, eo19, gb19, gl19, cl19, HG19⟩ := Kd.R_form HO_5.out (by omega)
             (first | cases eo19 | (injection eo19 with ea_ en_ ec_; (first | subst ea_ | (injection ea_ with ea_; subst ea_)); subst ec_; clear en_))
             have GB19 := Aside0.mk gb19
             have GG19 := Aside0.mk HG19
             clear gb19 gl19 HG19
             obtain ⟨hx19_0, hf19_0⟩ := Kd.R_celln 0 HO_5.out ((ji8) : Int) p19 q19
             replace p19 := eq_true p19
             replace q19 := eq_true q19
             have HP20 := Kd.R_putg HO_5.out ((ji8) : Int) ((wrap64 (48 + (wrap64 ((wrap64 ((wrap64 ((((bt a0 (ji8)) - 48) % 256) - x6_1)) - (((bt a1 (ji13)) - 48) % 256))) + 10)))) % 256)
             go_wp2_with (first | ((with_reducible refine gate_store (t := 5) (p := 57) rfl ?_); refine store_event (t := 5) (p := 57) (v := ?vo_w21) (w1 := (wr.setCell ⟨go19, ((ji8) : Int).toNat, none⟩ (.int .u8 ((wrap64 (48 + (wrap64 ((wrap64 ((wrap64 ((((bt a0 (ji8)) - 48) % 256) - x6_1)) - (((bt a1 (ji13)) - 48) % 256))) + 10)))) % 256)))) ?hg ?ho ?hn ?hr ?_; (case ho => rfl); (case hg => rfl); (case hn => rfl); (case hr => first | (go_simp; done) | (go_simp; rfl)); intro w21 hw; have hg : wr.grownBy w21 (some go19) := (by rw [hw]; exact HP20.2); have hp_ : Kd.R (Kd.int .u8) 5 w21 w.heap.size (fun _ => True) (.slice (some ⟨go19, 0, none⟩) x5_1.length co19) y203 := (by rw [hw, Ny203.out]; exact HP20.1); clear HP20; have n0_ := Aside0.mk (hp_); have n1_ := Aside0.mk ((by rw [hw]; exact below_set (HB.out) GB19.out : Below w.heap.size w w21)); clear HO_5; clear HB; have HO_5 := n0_; have HB := n1_; clear n0_ n1_; clear hg hw hp_))
             go_roundg k1
             case measure => have := HK1.out; omega
             case rel => exact ⟨(y203), (1), (wrap64 (x7_1 + 1)), (by first | rfl | (simp; done) | (simp [*]; done) | (simp [wrap64]; done)), (by first | rfl | (simp; done) | (simp [*]; done) | (simp [wrap64]; done)), H', ⟨by have := HK1.out; omega⟩, ⟨by (with_reducible repeat (first | apply Kd.R_alloc | apply Kd.R_drewN | apply Kd.R_drew)); exact HO_5.out⟩, ⟨bl⟩⟩
            ·rw [if_neg c18] at H
             exact absurd H (by simp)
           ·rw [if_neg c17] at H
            have c17b0 : decide ((wrap64 ((wrap64 ((((bt a0 (ji8)) - 48) % 256) - x6_1)) - (((bt a1 (ji13)) - 48) % 256))) < 0) = false := decide_eq_false c17
            clear c17
            by_cases c22 : (ji8) < (x5_1.length : Int)
            ·rw [if_pos c22] at H
             have c22b0 : decide ((ji8) < (x5_1.length : Int)) = true := decide_eq_true c22
             clear c22
             obtain ⟨y204, hy204⟩ : ∃ y_ : List Int, y_ = (x5_1.set ((ji8) : Int).toNat ((wrap64 (48 + (wrap64 ((wrap64 ((((bt a0 (ji8)) - 48) % 256) - x6_1)) - (((bt a1 (ji13)) - 48) % 256))))) % 256)) := ⟨_, rfl⟩
             replace H : (targumref4_less.l0 k1 a0 a1 y204 0 (wrap64 (x7_1 + 1))) = some r := by first | (rw [hy204]; with_reducible exact H) | (have H2_ := (Option.bind_some _ _).symm.trans H; rw [hy204]; with_reducible exact H2_) | (have H2_ := (Option.bind_some _ _).symm.trans H; with_reducible exact H2_) | with_reducible exact H | (rw [hy204]; exact H) | exact H
             have Ny204 := Aside0.mk hy204
             clear hy204
             have H' := Aside0.mk H
             clear H
             have p11 : 0 ≤ ((ji8) : Int) := of_decide_eq_true (by first | (with_reducible assumption) | assumption)
             have q11 : (ji8) < (a0.size : Int) := of_decide_eq_true (by first | (with_reducible assumption) | assumption)
             have hx11 := bt_at a0 (ji8)
             replace p11 := eq_true p11
             replace q11 := eq_true q11
             have p16 : 0 ≤ ((ji13) : Int) := of_decide_eq_true (by first | (with_reducible assumption) | assumption)
             have q16 : (ji13) < (a1.size : Int) := of_decide_eq_true (by first | (with_reducible assumption) | assumption)
             have hx16 := bt_at a1 (ji13)
             replace p16 := eq_true p16
             replace q16 := eq_true q16
             have p23 : 0 ≤ ((ji8) : Int) := of_decide_eq_true (by first | (with_reducible assumption) | assumption)
             have q23 : ((ji8) : Int) < ((x5_1.length : Int) : Int) := of_decide_eq_true (by first | (with_reducible assumption) | assumption)
             obtain ⟨go23, co23, eo23, gb23, gl23, cl23, HG23⟩ := Kd.R_form HO_5.out (by omega)
             (first | cases eo23 | (injection eo23 with ea_ en_ ec_; (first | subst ea_ | (injection ea_ with ea_; subst ea_)); subst ec_; clear en_))
             have GB23 := Aside0.mk gb23
             have GG23 := Aside0.mk HG23
             clear gb23 gl23 HG23
             obtain ⟨hx23_0, hf23_0⟩ := Kd.R_celln 0 HO_5.out ((ji8) : Int) p23 q23
             replace p23 := eq_true p23
             replace q23 := eq_true q23
             have HP24 := Kd.R_putg HO_5.out ((ji8) : Int) ((wrap64 (48 + (wrap64 ((wrap64 ((((bt a0 (ji8)) - 48) % 256) - x6_1)) - (((bt a1 (ji13)) - 48) % 256))))) % 256)
             go_wp2_with (first | ((with_reducible refine gate_store (t := 5) (p := 57) rfl ?_); refine store_event (t := 5) (p := 57) (v := ?vo_w25) (w1 := (wr.setCell ⟨go23, ((ji8) : Int).toNat, none⟩ (.int .u8 ((wrap64 (48 + (wrap64 ((wrap64 ((((bt a0 (ji8)) - 48) % 256) - x6_1)) - (((bt a1 (ji13)) - 48) % 256))))) % 256)))) ?hg ?ho ?hn ?hr ?_; (case ho => rfl); (case hg => rfl); (case hn => rfl); (case hr => first | (go_simp; done) | (go_simp; rfl)); intro w25 hw; have hg : wr.grownBy w25 (some go23) := (by rw [hw]; exact HP24.2); have hp_ : Kd.R (Kd.int .u8) 5 w25 w.heap.size (fun _ => True) (.slice (some ⟨go23, 0, none⟩) x5_1.length co23) y204 := (by rw [hw, Ny204.out]; exact HP24.1); clear HP24; have n0_ := Aside0.mk (hp_); have n1_ := Aside0.mk ((by rw [hw]; exact below_set (HB.out) GB23.out : Below w.heap.size w w25)); clear HO_5; clear HB; have HO_5 := n0_; have HB := n1_; clear n0_ n1_; clear hg hw hp_))
             go_roundg k1
             case measure => have := HK1.out; omega
             case rel => exact ⟨(y204), (0), (wrap64 (x7_1 + 1)), (by first | rfl | (simp; done) | (simp [*]; done) | (simp [wrap64]; done)), (by first | rfl | (simp; done) | (simp [*]; done) | (simp [wrap64]; done)), H', ⟨by have := HK1.out; omega⟩, ⟨by (with_reducible repeat (first | apply Kd.R_alloc | apply Kd.R_drewN | apply Kd.R_drew)); exact HO_5.out⟩, ⟨bl⟩⟩
            ·rw [if_neg c22] at H
             exact absurd H (by simp)
          ·rw [if_neg c15] at H
           exact absurd H (by simp)
         ·rw [if_neg c14] at H
          exact absurd H (by simp)
        ·rw [if_neg c12] at H
         have c12b0 : decide (x7_1 < (a1.size : Int)) = false := decide_eq_false c12
         clear c12
         by_cases c26 : (wrap64 ((((bt a0 (ji8)) - 48) % 256) - x6_1)) < 0
         ·rw [if_pos c26] at H
          have c26b0 : decide ((wrap64 ((((bt a0 (ji8)) - 48) % 256) - x6_1)) < 0) = true := decide_eq_true c26
          clear c26
          by_cases c27 : (ji8) < (x5_1.length : Int)
          ·rw [if_pos c27] at H
           have c27b0 : decide ((ji8) < (x5_1.length : Int)) = true := decide_eq_true c27
           clear c27
           obtain ⟨y205, hy205⟩ : ∃ y_ : List Int, y_ = (x5_1.set ((ji8) : Int).toNat ((wrap64 (48 + (wrap64 ((wrap64 ((((bt a0 (ji8)) - 48) % 256) - x6_1)) + 10)))) % 256)) := ⟨_, rfl⟩
           replace H : (targumref4_less.l0 k1 a0 a1 y205 1 (wrap64 (x7_1 + 1))) = some r := by first | (rw [hy205]; with_reducible exact H) | (have H2_ := (Option.bind_some _ _).symm.trans H; rw [hy205]; with_reducible exact H2_) | (have H2_ := (Option.bind_some _ _).symm.trans H; with_reducible exact H2_) | with_reducible exact H | (rw [hy205]; exact H) | exact H
           have Ny205 := Aside0.mk hy205
           clear hy205
           have H' := Aside0.mk H
           clear H
           have p11 : 0 ≤ ((ji8) : Int) := of_decide_eq_true (by first | (with_reducible assumption) | assumption)
           have q11 : (ji8) < (a0.size : Int) := of_decide_eq_true (by first | (with_reducible assumption) | assumption)
           have hx11 := bt_at a0 (ji8)
           replace p11 := eq_true p11
           replace q11 := eq_true q11
           have p28 : 0 ≤ ((ji8) : Int) := of_decide_eq_true (by first | (with_reducible assumption) | assumption)
           have q28 : ((ji8) : Int) < ((x5_1.length : Int) : Int) := of_decide_eq_true (by first | (with_reducible assumption) | assumption)
           obtain ⟨go28, co28, eo28, gb28, gl28, cl28, HG28⟩ := Kd.R_form HO_5.out (by omega)
           (first | cases eo28 | (injection eo28 with ea_ en_ ec_; (first | subst ea_ | (injection ea_ with ea_; subst ea_)); subst ec_; clear en_))
           have GB28 := Aside0.mk gb28
           have GG28 := Aside0.mk HG28
           clear gb28 gl28 HG28
           obtain ⟨hx28_0, hf28_0⟩ := Kd.R_celln 0 HO_5.out ((ji8) : Int) p28 q28
           replace p28 := eq_true p28
           replace q28 := eq_true q28
           have HP29 := Kd.R_putg HO_5.out ((ji8) : Int) ((wrap64 (48 + (wrap64 ((wrap64 ((((bt a0 (ji8)) - 48) % 256) - x6_1)) + 10)))) % 256)
           go_wp2_with (first | ((with_reducible refine gate_store (t := 5) (p := 57) rfl ?_); refine store_event (t := 5) (p := 57) (v := ?vo_w30) (w1 := (wr.setCell ⟨go28, ((ji8) : Int).toNat, none⟩ (.int .u8 ((wrap64 (48 + (wrap64 ((wrap64 ((((bt a0 (ji8)) - 48) % 256) - x6_1)) + 10)))) % 256)))) ?hg ?ho ?hn ?hr ?_; (case ho => rfl); (case hg => rfl); (case hn => rfl); (case hr => first | (go_simp; done) | (go_simp; rfl)); intro w30 hw; have hg : wr.grownBy w30 (some go28) := (by rw [hw]; exact HP29.2); have hp_ : Kd.R (Kd.int .u8) 5 w30 w.heap.size (fun _ => True) (.slice (some ⟨go28, 0, none⟩) x5_1.length co28) y205 := (by rw [hw, Ny205.out]; exact HP29.1); clear HP29; have n0_ := Aside0.mk (hp_); have n1_ := Aside0.mk ((by rw [hw]; exact below_set (HB.out) GB28.out : Below w.heap.size w w30)); clear HO_5; clear HB; have HO_5 := n0_; have HB := n1_; clear n0_ n1_; clear hg hw hp_))
           go_roundg k1
           case measure => have := HK1.out; omega
           case rel => exact ⟨(y205), (1), (wrap64 (x7_1 + 1)), (by first | rfl | (simp; done) | (simp [*]; done) | (simp [wrap64]; done)), (by first | rfl | (simp; done) | (simp [*]; done) | (simp [wrap64]; done)), H', ⟨by have := HK1.out; omega⟩, ⟨by (with_reducible repeat (first | apply Kd.R_alloc | apply Kd.R_drewN | apply Kd.R_drew)); exact HO_5.out⟩, ⟨bl⟩⟩
          ·rw [if_neg c27] at H
           exact absurd H (by simp)
         ·rw [if_neg c26] at H
          have c26b0 : decide ((wrap64 ((((bt a0 (ji8)) - 48) % 256) - x6_1)) < 0) = false := decide_eq_false c26
          clear c26
          by_cases c31 : (ji8) < (x5_1.length : Int)
          ·rw [if_pos c31] at H
           have c31b0 : decide ((ji8) < (x5_1.length : Int)) = true := decide_eq_true c31
           clear c31
           obtain ⟨y206, hy206⟩ : ∃ y_ : List Int, y_ = (x5_1.set ((ji8) : Int).toNat ((wrap64 (48 + (wrap64 ((((bt a0 (ji8)) - 48) % 256) - x6_1)))) % 256)) := ⟨_, rfl⟩
           replace H : (targumref4_less.l0 k1 a0 a1 y206 0 (wrap64 (x7_1 + 1))) = some r := by first | (rw [hy206]; with_reducible exact H) | (have H2_ := (Option.bind_some _ _).symm.trans H; rw [hy206]; with_reducible exact H2_) | (have H2_ := (Option.bind_some _ _).symm.trans H; with_reducible exact H2_) | with_reducible exact H | (rw [hy206]; exact H) | exact H
           have Ny206 := Aside0.mk hy206
           clear hy206
           have H' := Aside0.mk H
           clear H
           have p11 : 0 ≤ ((ji8) : Int) := of_decide_eq_true (by first | (with_reducible assumption) | assumption)
           have q11 : (ji8) < (a0.size : Int) := of_decide_eq_true (by first | (with_reducible assumption) | assumption)
           have hx11 := bt_at a0 (ji8)
           replace p11 := eq_true p11
           replace q11 := eq_true q11
           have p32 : 0 ≤ ((ji8) : Int) := of_decide_eq_true (by first | (with_reducible assumption) | assumption)
           have q32 : ((ji8) : Int) < ((x5_1.length : Int) : Int) := of_decide_eq_true (by first | (with_reducible assumption) | assumption)
           obtain ⟨go32, co32, eo32, gb32, gl32, cl32, HG32⟩ := Kd.R_form HO_5.out (by omega)
           (first | cases eo32 | (injection eo32 with ea_ en_ ec_; (first | subst ea_ | (injection ea_ with ea_; subst ea_)); subst ec_; clear en_))
           have GB32 := Aside0.mk gb32
           have GG32 := Aside0.mk HG32
           clear gb32 gl32 HG32
           obtain ⟨hx32_0, hf32_0⟩ := Kd.R_celln 0 HO_5.out ((ji8) : Int) p32 q32
           replace p32 := eq_true p32
           replace q32 := eq_true q32
           have HP33 := Kd.R_putg HO_5.out ((ji8) : Int) ((wrap64 (48 + (wrap64 ((((bt a0 (ji8)) - 48) % 256) - x6_1)))) % 256)
           go_wp2_with (first | ((with_reducible refine gate_store (t := 5) (p := 57) rfl ?_); refine store_event (t := 5) (p := 57) (v := ?vo_w34) (w1 := (wr.setCell ⟨go32, ((ji8) : Int).toNat, none⟩ (.int .u8 ((wrap64 (48 + (wrap64 ((((bt a0 (ji8)) - 48) % 256) - x6_1)))) % 256)))) ?hg ?ho ?hn ?hr ?_; (case ho => rfl); (case hg => rfl); (case hn => rfl); (case hr => first | (go_simp; done) | (go_simp; rfl)); intro w34 hw; have hg : wr.grownBy w34 (some go32) := (by rw [hw]; exact HP33.2); have hp_ : Kd.R (Kd.int .u8) 5 w34 w.heap.size (fun _ => True) (.slice (some ⟨go32, 0, none⟩) x5_1.length co32) y206 := (by rw [hw, Ny206.out]; exact HP33.1); clear HP33; have n0_ := Aside0.mk (hp_); have n1_ := Aside0.mk ((by rw [hw]; exact below_set (HB.out) GB32.out : Below w.heap.size w w34)); clear HO_5; clear HB; have HO_5 := n0_; have HB := n1_; clear n0_ n1_; clear hg hw hp_))
           go_roundg k1
           case measure => have := HK1.out; omega
           case rel => exact ⟨(y206), (0), (wrap64 (x7_1 + 1)), (by first | rfl | (simp; done) | (simp [*]; done) | (simp [wrap64]; done)), (by first | rfl | (simp; done) | (simp [*]; done) | (simp [wrap64]; done)), H', ⟨by have := HK1.out; omega⟩, ⟨by (with_reducible repeat (first | apply Kd.R_alloc | apply Kd.R_drewN | apply Kd.R_drew)); exact HO_5.out⟩, ⟨bl⟩⟩
          ·rw [if_neg c31] at H
           exact absurd H (by simp)
       ·rw [if_neg c10] at H
        exact absurd H (by simp)
      ·rw [if_neg c9] at H
       exact absurd H (by simp)
     ·rw [if_neg c7] at H
      have c7b0 : decide (x7_1 < (a0.size : Int)) = false := decide_eq_false c7
      clear c7
      replace H := Option.bind_eq_some_iff.mp H
      obtain ⟨t202, A350, H⟩ := H
      replace H : (some t202) = some r := H
      have A35 := Aside0.mk A350
      clear A350
      obtain rfl := Option.some.inj H
      have hcv36 := own_string (P := Tryd.prog) Tryd.underlying31 Tryd.underlying5 Tryd.underlying9 (Kd.own_of_R HO_5.out)
      go_wp2_with (first | ((with_reducible refine gate_callee (f := 15) rfl ?_); refine goesL_ (some 60) rfl rfl Tryd.func15 (by kernel_rfl) rfl #[.bool false, .string (strOfNums x5_1)] rfl (by (try simp only [List.map_toArray, List.map_cons, List.map_nil]); first | done | rfl | (simp only [List.length_drop, List.length_take]; rfl)) ?_; (with_reducible refine (targumref4_Norm.calls k1 false (strOfNums x5_1) t202 _ A35.out).mono ?_); rintro e w' ⟨rfl, ⟨nd, rfl⟩⟩; refine ⟨_, rfl, ?_⟩))
      go_ret
      exact ⟨by first | rfl | (simp [errW_none, errW_some] <;> rfl) | (simp [*, errW_none, errW_some] <;> rfl), bl⟩
  ·rw [if_neg c4] at H
   exact absurd H (by simp)
 ·rw [if_neg c3] at H
  exact absurd H (by simp)

/-! ### targumref4_Add: function 24 -/
mutual
def targumref4_Add.j0 : Nat → ByteArray → Int → Bool → Option (ByteArray)
 | 0, _, _, _ => none
 | k + 1, x0, x1, x18 => if x18 = true then (some (⟨#[]⟩ : ByteArray)) else (if 0 < (x0.size : Int) then (if (bt x0 0) = 45 then (if 1 ≤ (x0.size : Int) then (targumref4_Add.j1 k (x0.extract 1 x0.size) x1 ((bt x0 0) == 45) (decide (x1 < 0))) else (none)) else (targumref4_Add.j1 k x0 x1 ((bt x0 0) == 45) (decide (x1 < 0)))) else (none))
def targumref4_Add.j1 : Nat → ByteArray → Int → Bool → Bool → Option (ByteArray)
 | 0, _, _, _, _ => none
 | k + 1, x0, x1, x5, x6 => if x6 = true then (targumref4_Add.j2 k x0 (wrap64 (-x1)) x5 x6) else (targumref4_Add.j2 k x0 x1 x5 x6)
def targumref4_Add.j2 : Nat → ByteArray → Int → Bool → Bool → Option (ByteArray)
 | 0, _, _, _, _ => none
 | k + 1, x0, x1, x5, x6 => if (x5 == x6) = true then ((targumref4_mulAdd.f k x0 1 x1).bind fun t208 => ((targumref4_Norm.f k x5 t208).bind fun t209 => (some t209))) else ((targumref4_Text.f k x1).bind fun t210 => ((targumref4_compare.f x0 t210).bind fun t211 => (if t211 < 0 then ((targumref4_less.f k t210 x0).bind fun t212 => ((targumref4_Norm.f k x6 t212).bind fun t213 => (some t213))) else ((targumref4_less.f k x0 t210).bind fun t214 => ((targumref4_Norm.f k x5 t214).bind fun t215 => (some t215))))))
end
def targumref4_Add.f (k : Nat) (a0 : ByteArray) (a1 : Int) : Option (ByteArray) := (targumref4_Good.f k a0).bind fun t207 => (if t207 = true then (if a1 < (-1099511627776) then (targumref4_Add.j0 k a0 a1 true) else (targumref4_Add.j0 k a0 a1 (decide (a1 > 1099511627776)))) else (targumref4_Add.j0 k a0 a1 true))
theorem targumref4_Add.mono_l : ∀ k, (∀ y0 y1 y2, LeO (targumref4_Add.j0 k y0 y1 y2) (targumref4_Add.j0 (k + 1) y0 y1 y2)) ∧ (∀ y0 y1 y2 y3, LeO (targumref4_Add.j1 k y0 y1 y2 y3) (targumref4_Add.j1 (k + 1) y0 y1 y2 y3)) ∧ (∀ y0 y1 y2 y3, LeO (targumref4_Add.j2 k y0 y1 y2 y3) (targumref4_Add.j2 (k + 1) y0 y1 y2 y3))
 | 0 => ⟨fun _ _ _ r h => by simp [targumref4_Add.j0] at h, fun _ _ _ _ r h => by simp [targumref4_Add.j1] at h, fun _ _ _ _ r h => by simp [targumref4_Add.j2] at h⟩
 | k + 1 => by
  obtain ⟨ih0, ih1, ih2⟩ := targumref4_Add.mono_l k
  refine ⟨?_, ?_, ?_⟩
  ·intro y0 y1 y2
   unfold targumref4_Add.j0
   repeat' first
   | (with_reducible exact ih0 _ _ _)
   | (with_reducible exact ih1 _ _ _ _)
   | (with_reducible exact ih2 _ _ _ _)
   | (with_reducible exact targumref4_Good.mono _ _)
   | (with_reducible exact targumref4_Norm.mono _ _ _)
   | (with_reducible exact targumref4_Text.mono _ _)
   | (with_reducible exact targumref4_less.mono _ _ _)
   | (with_reducible exact targumref4_mulAdd.mono _ _ _ _)
   | (with_reducible exact LeO.refl _)
   | (with_reducible exact LeO.none _)
   | (with_reducible refine LeO.ite ?_ ?_)
   | (with_reducible refine LeO.bind ?_ (fun _ => ?_))
   | exact ih0 _ _ _
   | exact ih1 _ _ _ _
   | exact ih2 _ _ _ _
   | exact targumref4_Good.mono _ _
   | exact targumref4_Norm.mono _ _ _
   | exact targumref4_Text.mono _ _
   | exact targumref4_less.mono _ _ _
   | exact targumref4_mulAdd.mono _ _ _ _
   | exact LeO.none _
   | refine LeO.ite ?_ ?_
   | refine LeO.bind ?_ (fun _ => ?_)
  ·intro y0 y1 y2 y3
   unfold targumref4_Add.j1
   repeat' first
   | (with_reducible exact ih0 _ _ _)
   | (with_reducible exact ih1 _ _ _ _)
   | (with_reducible exact ih2 _ _ _ _)
   | (with_reducible exact targumref4_Good.mono _ _)
   | (with_reducible exact targumref4_Norm.mono _ _ _)
   | (with_reducible exact targumref4_Text.mono _ _)
   | (with_reducible exact targumref4_less.mono _ _ _)
   | (with_reducible exact targumref4_mulAdd.mono _ _ _ _)
   | (with_reducible exact LeO.refl _)
   | (with_reducible exact LeO.none _)
   | (with_reducible refine LeO.ite ?_ ?_)
   | (with_reducible refine LeO.bind ?_ (fun _ => ?_))
   | exact ih0 _ _ _
   | exact ih1 _ _ _ _
   | exact ih2 _ _ _ _
   | exact targumref4_Good.mono _ _
   | exact targumref4_Norm.mono _ _ _
   | exact targumref4_Text.mono _ _
   | exact targumref4_less.mono _ _ _
   | exact targumref4_mulAdd.mono _ _ _ _
   | exact LeO.none _
   | refine LeO.ite ?_ ?_
   | refine LeO.bind ?_ (fun _ => ?_)
  ·intro y0 y1 y2 y3
   unfold targumref4_Add.j2
   repeat' first
   | (with_reducible exact ih0 _ _ _)
   | (with_reducible exact ih1 _ _ _ _)
   | (with_reducible exact ih2 _ _ _ _)
   | (with_reducible exact targumref4_Good.mono _ _)
   | (with_reducible exact targumref4_Norm.mono _ _ _)
   | (with_reducible exact targumref4_Text.mono _ _)
   | (with_reducible exact targumref4_less.mono _ _ _)
   | (with_reducible exact targumref4_mulAdd.mono _ _ _ _)
   | (with_reducible exact LeO.refl _)
   | (with_reducible exact LeO.none _)
   | (with_reducible refine LeO.ite ?_ ?_)
   | (with_reducible refine LeO.bind ?_ (fun _ => ?_))
   | exact ih0 _ _ _
   | exact ih1 _ _ _ _
   | exact ih2 _ _ _ _
   | exact targumref4_Good.mono _ _
   | exact targumref4_Norm.mono _ _ _
   | exact targumref4_Text.mono _ _
   | exact targumref4_less.mono _ _ _
   | exact targumref4_mulAdd.mono _ _ _ _
   | exact LeO.none _
   | refine LeO.ite ?_ ?_
   | refine LeO.bind ?_ (fun _ => ?_)
theorem targumref4_Add.mono : ∀ a0 a1 k, LeO (targumref4_Add.f k a0 a1) (targumref4_Add.f (k + 1) a0 a1) := by
 intro a0 a1 k
 obtain ⟨ih0, ih1, ih2⟩ := targumref4_Add.mono_l k
 unfold targumref4_Add.f
 repeat' first
   | (with_reducible exact ih0 _ _ _)
   | (with_reducible exact ih1 _ _ _ _)
   | (with_reducible exact ih2 _ _ _ _)
   | (with_reducible exact targumref4_Good.mono _ _)
   | (with_reducible exact targumref4_Norm.mono _ _ _)
   | (with_reducible exact targumref4_Text.mono _ _)
   | (with_reducible exact targumref4_less.mono _ _ _)
   | (with_reducible exact targumref4_mulAdd.mono _ _ _ _)
   | (with_reducible exact LeO.refl _)
   | (with_reducible exact LeO.none _)
   | (with_reducible refine LeO.ite ?_ ?_)
   | (with_reducible refine LeO.bind ?_ (fun _ => ?_))
   | exact ih0 _ _ _
   | exact ih1 _ _ _ _
   | exact ih2 _ _ _ _
   | exact targumref4_Good.mono _ _
   | exact targumref4_Norm.mono _ _ _
   | exact targumref4_Text.mono _ _
   | exact targumref4_less.mono _ _ _
   | exact targumref4_mulAdd.mono _ _ _ _
   | exact LeO.none _
   | refine LeO.ite ?_ ?_
   | refine LeO.bind ?_ (fun _ => ?_)
set_option maxHeartbeats 8000000 in
set_option maxRecDepth 100000 in
theorem targumref4_Add.calls (k : Nat) (a0 : ByteArray) (a1 : Int) (r : ByteArray) (w : World) (h : targumref4_Add.f k a0 a1 = some r) :
  Calls Tryd.prog 24 #[.string a0, .int .i64 a1] w fun e w' => e = .returned (.string r) ∧ Below w.heap.size w w' := by
 have HB := Aside0.mk (Below.refl w.heap.size w)
 have H : ((targumref4_Good.f k a0).bind fun t207 => (if t207 = true then (if a1 < (-1099511627776) then (targumref4_Add.j0 k a0 a1 true) else (targumref4_Add.j0 k a0 a1 (decide (a1 > 1099511627776)))) else (targumref4_Add.j0 k a0 a1 true))) = some r := h
 clear h
 have HC3 := Aside0.mk H
 clear H
 go_enter Tryd.func24, Tryd.ntmps24
 go_upto_region 1 with (fail)
 go_cut [18] (fun v18 wc => ∃ (kq : Nat) (x18_2 : Bool), v18 = .bool x18_2 ∧ Aside0 (targumref4_Add.j0 kq a0 a1 x18_2 = some r) ∧ Aside0 (kq ≤ k) ∧ Aside0 (Below w.heap.size w wc))
 case first =>
  have H := HC3.out
  clear HC3
  replace H := Option.bind_eq_some_iff.mp H
  obtain ⟨t207, A40, H⟩ := H
  replace H : (if t207 = true then (if a1 < (-1099511627776) then (targumref4_Add.j0 k a0 a1 true) else (targumref4_Add.j0 k a0 a1 (decide (a1 > 1099511627776)))) else (targumref4_Add.j0 k a0 a1 true)) = some r := H
  have A4 := Aside0.mk A40
  clear A40
  by_cases c5 : t207 = true
  ·subst c5
   have H1 : (if a1 < (-1099511627776) then (targumref4_Add.j0 k a0 a1 true) else (targumref4_Add.j0 k a0 a1 (decide (a1 > 1099511627776)))) = some r := by rw [if_pos rfl] at H; exact H
   clear H
   have H := H1
   clear H1
   by_cases c6 : a1 < (-1099511627776)
   ·rw [if_pos c6] at H
    have c6b0 : decide (a1 < (-1099511627776)) = true := decide_eq_true c6
    clear c6
    (first | rw [c6b0] | (simp only [i64_w, i32_w]; rw [c6b0]) | skip)
    have H' := Aside0.mk H
    clear H
    go_wp2_with (first | ((with_reducible refine gate_callee (f := 17) rfl ?_); refine goesL_ (some 9) rfl rfl Tryd.func17 (by kernel_rfl) rfl #[.string a0] rfl (by (try simp only [List.map_toArray, List.map_cons, List.map_nil]); first | done | rfl | (simp only [List.length_drop, List.length_take]; rfl)) ?_; (with_reducible refine (targumref4_Good.calls k a0 true _ A4.out).mono ?_); rintro e w' ⟨rfl, ⟨nd, rfl⟩⟩; refine ⟨_, rfl, ?_⟩))
    go_meet
    case rel => exact ⟨_, (true), (by first | rfl | (simp; done) | (simp [*]; done) | (simp [wrap64]; done)), H', ⟨by first | omega | exact Nat.le_refl _⟩, ⟨bl⟩⟩
   ·rw [if_neg c6] at H
    have c6b0 : decide (a1 < (-1099511627776)) = false := decide_eq_false c6
    clear c6
    (first | rw [c6b0] | (simp only [i64_w, i32_w]; rw [c6b0]) | skip)
    have H' := Aside0.mk H
    clear H
    go_wp2_with (first | ((with_reducible refine gate_callee (f := 17) rfl ?_); refine goesL_ (some 9) rfl rfl Tryd.func17 (by kernel_rfl) rfl #[.string a0] rfl (by (try simp only [List.map_toArray, List.map_cons, List.map_nil]); first | done | rfl | (simp only [List.length_drop, List.length_take]; rfl)) ?_; (with_reducible refine (targumref4_Good.calls k a0 true _ A4.out).mono ?_); rintro e w' ⟨rfl, ⟨nd, rfl⟩⟩; refine ⟨_, rfl, ?_⟩))
    go_meet
    case rel => exact ⟨_, (decide (a1 > 1099511627776)), (by first | rfl | (simp; done) | (simp [*]; done) | (simp [wrap64]; done)), H', ⟨by first | omega | exact Nat.le_refl _⟩, ⟨bl⟩⟩
  ·replace c5 := Bool.eq_false_iff.mpr c5
   subst c5
   have H1 : (targumref4_Add.j0 k a0 a1 true) = some r := by rw [if_neg (show ¬ (false = true) by decide)] at H; exact H
   clear H
   have H := H1
   clear H1
   have H' := Aside0.mk H
   clear H
   go_wp2_with (first | ((with_reducible refine gate_callee (f := 17) rfl ?_); refine goesL_ (some 9) rfl rfl Tryd.func17 (by kernel_rfl) rfl #[.string a0] rfl (by (try simp only [List.map_toArray, List.map_cons, List.map_nil]); first | done | rfl | (simp only [List.length_drop, List.length_take]; rfl)) ?_; (with_reducible refine (targumref4_Good.calls k a0 false _ A4.out).mono ?_); rintro e w' ⟨rfl, ⟨nd, rfl⟩⟩; refine ⟨_, rfl, ?_⟩))
   go_meet
   case rel => exact ⟨_, (true), (by first | rfl | (simp; done) | (simp [*]; done) | (simp [wrap64]; done)), H', ⟨by first | omega | exact Nat.le_refl _⟩, ⟨bl⟩⟩
 case rest =>
  clear HC3
  try clear c1; try clear c2; try clear p2; try clear c5; try clear c6; try clear c6b0
  obtain ⟨kq, x18_2, rfl, HA, HJ2, HB⟩ := hcut
  cases kq with
  | zero => exact absurd HA.out (by simp [targumref4_Add.j0])
  | succ kj2 =>
   have H := HA.out
   clear HA
   simp only [targumref4_Add.j0] at H
   by_cases c7 : x18_2 = true
   ·subst c7
    have H1 : (some (⟨#[]⟩ : ByteArray)) = some r := by rw [if_pos rfl] at H; exact H
    clear H
    have H := H1
    clear H1
    obtain rfl := Option.some.inj H
    go_wp2
    go_ret
    exact ⟨by first | rfl | (simp [errW_none, errW_some] <;> rfl) | (simp [*, errW_none, errW_some] <;> rfl), bl⟩
   ·replace c7 := Bool.eq_false_iff.mpr c7
    subst c7
    have H1 : (if 0 < (a0.size : Int) then (if (bt a0 0) = 45 then (if 1 ≤ (a0.size : Int) then (targumref4_Add.j1 kj2 (a0.extract 1 a0.size) a1 ((bt a0 0) == 45) (decide (a1 < 0))) else (none)) else (targumref4_Add.j1 kj2 a0 a1 ((bt a0 0) == 45) (decide (a1 < 0)))) else (none)) = some r := by rw [if_neg (show ¬ (false = true) by decide)] at H; exact H
    clear H
    have H := H1
    clear H1
    by_cases c8 : 0 < (a0.size : Int)
    ·rw [if_pos c8] at H
     have c8b0 : decide (0 < (a0.size : Int)) = true := decide_eq_true c8
     have c8b1 : decide (0 < a0.size) = true := decide_eq_true (by omega)
     clear c8
     have HC10 := Aside0.mk H
     clear H
     have p9 : 0 ≤ (0 : Int) := (by omega)
     have q9 : 0 < a0.size := (by have : (0 : Int) < (a0.size : Int) := of_decide_eq_true (by first | (with_reducible assumption) | assumption); omega)
     have hx9 : ∀ h : 0 < a0.size, ((a0[0]'h).toNat : Int) = bt a0 0 := bt_at a0 0
     clear p9
     have qi9 : (0 < (a0.size : Int)) = True := eq_true (of_decide_eq_true (by first | (with_reducible assumption) | assumption))
     replace q9 := eq_true q9
     go_upto_if 24 with (fail)
     go_cut [0, 5, 6] (fun v0 v5 v6 wc => ∃ (kq : Nat) (x0_9 : ByteArray) (x5_9 : Bool) (x6_9 : Bool), v0 = .string x0_9 ∧ v5 = .bool x5_9 ∧ v6 = .bool x6_9 ∧ Aside0 (targumref4_Add.j1 kq x0_9 a1 x5_9 x6_9 = some r) ∧ Aside0 (kq ≤ kj2) ∧ Aside0 (Below w.heap.size w wc))
     case first =>
      have H := HC10.out
      clear HC10
      by_cases c11 : (bt a0 0) = 45
      ·rw [if_pos c11] at H
       have c11b0 : ((bt a0 0) == 45) = true := beq_iff_eq.mpr c11
       have c11b1 : ((bt a0 0) != 45) = false := bne_eq_false_iff_eq.mpr c11
       clear c11
       (first | rw [c11b0] | (simp only [i64_w, i32_w]; rw [c11b0]) | skip)
       by_cases c12 : 1 ≤ (a0.size : Int)
       ·rw [if_pos c12] at H
        have c12b0 := eq_true c12
        have c12b1 : decide (1 ≤ (a0.size : Int)) = true := decide_eq_true c12
        clear c12
        have H' := Aside0.mk H
        clear H
        go_wp2
        go_meet
        case rel => exact ⟨_, (a0.extract 1 a0.size), (((bt a0 0) == 45)), (decide (a1 < 0)), (by first | rfl | (simp; done) | (simp [*]; done) | (simp [wrap64]; done)), (by first | rfl | (simp; done) | (simp [*]; done) | (simp [wrap64]; done)), (by first | rfl | (simp; done) | (simp [*]; done) | (simp [wrap64]; done)), H', ⟨by have := HJ2.out; first | omega | exact Nat.le_refl _⟩, ⟨bl⟩⟩
       ·rw [if_neg c12] at H
        exact absurd H (by simp)
      ·rw [if_neg c11] at H
       have c11b0 : ((bt a0 0) == 45) = false := beq_eq_false_iff_ne.mpr c11
       have c11b1 : ((bt a0 0) != 45) = true := bne_iff_ne.mpr c11
       (first | rw [c11b0] | (simp only [i64_w, i32_w]; rw [c11b0]) | skip)
       have H' := Aside0.mk H
       clear H
       go_wp2
       go_meet
       case rel => exact ⟨_, (a0), (((bt a0 0) == 45)), (decide (a1 < 0)), (by first | rfl | (simp; done) | (simp [*]; done) | (simp [wrap64]; done)), (by first | rfl | (simp; done) | (simp [*]; done) | (simp [wrap64]; done)), (by first | rfl | (simp; done) | (simp [*]; done) | (simp [wrap64]; done)), H', ⟨by have := HJ2.out; first | omega | exact Nat.le_refl _⟩, ⟨bl⟩⟩
     case rest =>
      clear HC10
      try clear c1; try clear c2; try clear p2; try clear c5; try clear c6; try clear c6b0; try clear c7; try clear c8; try clear c8b0; try clear c8b1; try clear p9; try clear q9; try clear hx9; try clear qi9; try clear c11; try clear c11b0; try clear c11b1; try clear c12; try clear c12b0; try clear c12b1; try clear p2; try clear p9; try clear q9
      obtain ⟨kq, x0_9, x5_9, x6_9, rfl, rfl, rfl, HA, HJ9, HB⟩ := hcut
      cases kq with
      | zero => exact absurd HA.out (by simp [targumref4_Add.j1])
      | succ kj9 =>
       have H := HA.out
       clear HA
       simp only [targumref4_Add.j1] at H
       have HC13 := Aside0.mk H
       clear H
       go_upto_if 27 with (fail)
       go_cut [1] (fun v1 wc => ∃ (kq : Nat) (x1_12 : Int), v1 = .int .i64 x1_12 ∧ Aside0 (targumref4_Add.j2 kq x0_9 x1_12 x5_9 x6_9 = some r) ∧ Aside0 (kq ≤ kj9) ∧ Aside0 (Below w.heap.size w wc))
       case first =>
        have H := HC13.out
        clear HC13
        by_cases c14 : x6_9 = true
        ·subst c14
         have H1 : (targumref4_Add.j2 kj9 x0_9 (wrap64 (-a1)) x5_9 true) = some r := by rw [if_pos rfl] at H; exact H
         clear H
         have H := H1
         clear H1
         have H' := Aside0.mk H
         clear H
         go_wp2
         go_meet
         case rel => exact ⟨_, (wrap64 (-a1)), (by first | rfl | (simp; done) | (simp [*]; done) | (simp [wrap64]; done)), H', ⟨by have := HJ2.out; have := HJ9.out; first | omega | exact Nat.le_refl _⟩, ⟨bl⟩⟩
        ·replace c14 := Bool.eq_false_iff.mpr c14
         subst c14
         have H1 : (targumref4_Add.j2 kj9 x0_9 a1 x5_9 false) = some r := by rw [if_neg (show ¬ (false = true) by decide)] at H; exact H
         clear H
         have H := H1
         clear H1
         have H' := Aside0.mk H
         clear H
         go_wp2
         go_meet
         case rel => exact ⟨_, (a1), (by first | rfl | (simp; done) | (simp [*]; done) | (simp [wrap64]; done)), H', ⟨by have := HJ2.out; have := HJ9.out; first | omega | exact Nat.le_refl _⟩, ⟨bl⟩⟩
       case rest =>
        clear HC13
        try clear c1; try clear c2; try clear p2; try clear c5; try clear c6; try clear c6b0; try clear p6; try clear c7; try clear c8; try clear c8b0; try clear c8b1; try clear p9; try clear q9; try clear hx9; try clear qi9; try clear c11; try clear c11b0; try clear c11b1; try clear c12; try clear c12b0; try clear c12b1; try clear c14; try clear p2; try clear p9; try clear q9
        obtain ⟨kq, x1_12, rfl, HA, HJ12, HB⟩ := hcut
        cases kq with
        | zero => exact absurd HA.out (by simp [targumref4_Add.j2])
        | succ kj12 =>
         have H := HA.out
         clear HA
         simp only [targumref4_Add.j2] at H
         by_cases c15 : (x5_9 == x6_9) = true
         ·rw [if_pos c15] at H
          have c15b0 : (x5_9 == x6_9) = true := c15
          (try (have c15b1 : decide (x5_9 = x6_9) = true := by simpa using c15))
          (try (have c15b2 : (x5_9 == x6_9) = true := by simpa using c15))
          clear c15
          replace H := Option.bind_eq_some_iff.mp H
          obtain ⟨t208, A160, H⟩ := H
          replace H : ((targumref4_Norm.f kj12 x5_9 t208).bind fun t209 => (some t209)) = some r := H
          have A16 := Aside0.mk A160
          clear A160
          replace H := Option.bind_eq_some_iff.mp H
          obtain ⟨t209, A170, H⟩ := H
          replace H : (some t209) = some r := H
          have A17 := Aside0.mk A170
          clear A170
          obtain rfl := Option.some.inj H
          go_wp2_with (first | ((with_reducible refine gate_callee (f := 46) rfl ?_); refine goesL_ (some 36) rfl rfl Tryd.func46 (by kernel_rfl) rfl #[.string x0_9, .int .i64 1, .int .i64 x1_12] rfl (by (try simp only [List.map_toArray, List.map_cons, List.map_nil]); first | done | rfl | (simp only [List.length_drop, List.length_take]; rfl)) ?_; (with_reducible refine (targumref4_mulAdd.calls kj12 x0_9 1 x1_12 t208 _ A16.out).mono ?_); rintro e w18 ⟨rfl, hb⟩; refine ⟨_, rfl, ?_⟩; have n0_ := Aside0.mk (below_step bl hb); clear HB; have HB := n0_; clear n0_; (try clear hb); (try clear hb2); (try clear hk); (try clear hi)) | ((with_reducible refine gate_callee (f := 15) rfl ?_); refine goesL_ (some 37) rfl rfl Tryd.func15 (by kernel_rfl) rfl #[.bool x5_9, .string t208] rfl (by (try simp only [List.map_toArray, List.map_cons, List.map_nil]); first | done | rfl | (simp only [List.length_drop, List.length_take]; rfl)) ?_; (with_reducible refine (targumref4_Norm.calls kj12 x5_9 t208 t209 _ A17.out).mono ?_); rintro e w' ⟨rfl, ⟨nd, rfl⟩⟩; refine ⟨_, rfl, ?_⟩))
          go_ret
          exact ⟨by first | rfl | (simp [errW_none, errW_some] <;> rfl) | (simp [*, errW_none, errW_some] <;> rfl), bl⟩
         ·rw [if_neg c15] at H
          have c15b0 : (x5_9 == x6_9) = false := by simpa using c15
          (try (have c15b1 : decide (x5_9 = x6_9) = false := by simpa using c15))
          (try (have c15b2 : (x5_9 == x6_9) = false := by simpa using c15))
          (try (have c15b3 : ¬ (x5_9 = x6_9) := by simpa using c15))
          clear c15
          replace H := Option.bind_eq_some_iff.mp H
          obtain ⟨t210, A190, H⟩ := H
          replace H : ((targumref4_compare.f x0_9 t210).bind fun t211 => (if t211 < 0 then ((targumref4_less.f kj12 t210 x0_9).bind fun t212 => ((targumref4_Norm.f kj12 x6_9 t212).bind fun t213 => (some t213))) else ((targumref4_less.f kj12 x0_9 t210).bind fun t214 => ((targumref4_Norm.f kj12 x5_9 t214).bind fun t215 => (some t215))))) = some r := H
          have A19 := Aside0.mk A190
          clear A190
          replace H := Option.bind_eq_some_iff.mp H
          obtain ⟨t211, A200, H⟩ := H
          replace H : (if t211 < 0 then ((targumref4_less.f kj12 t210 x0_9).bind fun t212 => ((targumref4_Norm.f kj12 x6_9 t212).bind fun t213 => (some t213))) else ((targumref4_less.f kj12 x0_9 t210).bind fun t214 => ((targumref4_Norm.f kj12 x5_9 t214).bind fun t215 => (some t215)))) = some r := H
          have A20 := Aside0.mk A200
          clear A200
          by_cases c21 : t211 < 0
          ·rw [if_pos c21] at H
           have c21b0 : decide (t211 < 0) = true := decide_eq_true c21
           clear c21
           replace H := Option.bind_eq_some_iff.mp H
           obtain ⟨t212, A220, H⟩ := H
           replace H : ((targumref4_Norm.f kj12 x6_9 t212).bind fun t213 => (some t213)) = some r := H
           have A22 := Aside0.mk A220
           clear A220
           replace H := Option.bind_eq_some_iff.mp H
           obtain ⟨t213, A230, H⟩ := H
           replace H : (some t213) = some r := H
           have A23 := Aside0.mk A230
           clear A230
           obtain rfl := Option.some.inj H
           go_wp2_with (first | ((with_reducible refine gate_callee (f := 51) rfl ?_); refine goesL_ (some 39) rfl rfl Tryd.func51 (by kernel_rfl) rfl #[.int .i64 x1_12] rfl (by (try simp only [List.map_toArray, List.map_cons, List.map_nil]); first | done | rfl | (simp only [List.length_drop, List.length_take]; rfl)) ?_; (with_reducible refine (targumref4_Text.calls kj12 x1_12 t210 _ A19.out).mono ?_); rintro e w24 ⟨rfl, hb⟩; refine ⟨_, rfl, ?_⟩; have n0_ := Aside0.mk (below_step bl hb); clear HB; have HB := n0_; clear n0_; (try clear hb); (try clear hb2); (try clear hk); (try clear hi)) | ((with_reducible refine gate_callee (f := 52) rfl ?_); refine goesL_ (some 42) rfl rfl Tryd.func52 (by kernel_rfl) rfl #[.string x0_9, .string t210] rfl (by (try simp only [List.map_toArray, List.map_cons, List.map_nil]); first | done | rfl | (simp only [List.length_drop, List.length_take]; rfl)) ?_; (with_reducible refine (targumref4_compare.calls x0_9 t210 t211 _ A20.out).mono ?_); rintro e w' ⟨rfl, ⟨nd, rfl⟩⟩; refine ⟨_, rfl, ?_⟩) | ((with_reducible refine gate_callee (f := 53) rfl ?_); refine goesL_ (some 47) rfl rfl Tryd.func53 (by kernel_rfl) rfl #[.string t210, .string x0_9] rfl (by (try simp only [List.map_toArray, List.map_cons, List.map_nil]); first | done | rfl | (simp only [List.length_drop, List.length_take]; rfl)) ?_; (with_reducible refine (targumref4_less.calls kj12 t210 x0_9 t212 _ A22.out).mono ?_); rintro e w25 ⟨rfl, hb⟩; refine ⟨_, rfl, ?_⟩; have n0_ := Aside0.mk (below_step bl hb); clear HB; have HB := n0_; clear n0_; (try clear hb); (try clear hb2); (try clear hk); (try clear hi)) | ((with_reducible refine gate_callee (f := 15) rfl ?_); refine goesL_ (some 48) rfl rfl Tryd.func15 (by kernel_rfl) rfl #[.bool x6_9, .string t212] rfl (by (try simp only [List.map_toArray, List.map_cons, List.map_nil]); first | done | rfl | (simp only [List.length_drop, List.length_take]; rfl)) ?_; (with_reducible refine (targumref4_Norm.calls kj12 x6_9 t212 t213 _ A23.out).mono ?_); rintro e w' ⟨rfl, ⟨nd, rfl⟩⟩; refine ⟨_, rfl, ?_⟩))
           go_ret
           exact ⟨by first | rfl | (simp [errW_none, errW_some] <;> rfl) | (simp [*, errW_none, errW_some] <;> rfl), bl⟩
          ·rw [if_neg c21] at H
           have c21b0 : decide (t211 < 0) = false := decide_eq_false c21
           clear c21
           replace H := Option.bind_eq_some_iff.mp H
           obtain ⟨t214, A260, H⟩ := H
           replace H : ((targumref4_Norm.f kj12 x5_9 t214).bind fun t215 => (some t215)) = some r := H
           have A26 := Aside0.mk A260
           clear A260
           replace H := Option.bind_eq_some_iff.mp H
           obtain ⟨t215, A270, H⟩ := H
           replace H : (some t215) = some r := H
           have A27 := Aside0.mk A270
           clear A270
           obtain rfl := Option.some.inj H
           go_wp2_with (first | ((with_reducible refine gate_callee (f := 51) rfl ?_); refine goesL_ (some 39) rfl rfl Tryd.func51 (by kernel_rfl) rfl #[.int .i64 x1_12] rfl (by (try simp only [List.map_toArray, List.map_cons, List.map_nil]); first | done | rfl | (simp only [List.length_drop, List.length_take]; rfl)) ?_; (with_reducible refine (targumref4_Text.calls kj12 x1_12 t210 _ A19.out).mono ?_); rintro e w28 ⟨rfl, hb⟩; refine ⟨_, rfl, ?_⟩; have n0_ := Aside0.mk (below_step bl hb); clear HB; have HB := n0_; clear n0_; (try clear hb); (try clear hb2); (try clear hk); (try clear hi)) | ((with_reducible refine gate_callee (f := 52) rfl ?_); refine goesL_ (some 42) rfl rfl Tryd.func52 (by kernel_rfl) rfl #[.string x0_9, .string t210] rfl (by (try simp only [List.map_toArray, List.map_cons, List.map_nil]); first | done | rfl | (simp only [List.length_drop, List.length_take]; rfl)) ?_; (with_reducible refine (targumref4_compare.calls x0_9 t210 t211 _ A20.out).mono ?_); rintro e w' ⟨rfl, ⟨nd, rfl⟩⟩; refine ⟨_, rfl, ?_⟩) | ((with_reducible refine gate_callee (f := 53) rfl ?_); refine goesL_ (some 52) rfl rfl Tryd.func53 (by kernel_rfl) rfl #[.string x0_9, .string t210] rfl (by (try simp only [List.map_toArray, List.map_cons, List.map_nil]); first | done | rfl | (simp only [List.length_drop, List.length_take]; rfl)) ?_; (with_reducible refine (targumref4_less.calls kj12 x0_9 t210 t214 _ A26.out).mono ?_); rintro e w29 ⟨rfl, hb⟩; refine ⟨_, rfl, ?_⟩; have n0_ := Aside0.mk (below_step bl hb); clear HB; have HB := n0_; clear n0_; (try clear hb); (try clear hb2); (try clear hk); (try clear hi)) | ((with_reducible refine gate_callee (f := 15) rfl ?_); refine goesL_ (some 53) rfl rfl Tryd.func15 (by kernel_rfl) rfl #[.bool x5_9, .string t214] rfl (by (try simp only [List.map_toArray, List.map_cons, List.map_nil]); first | done | rfl | (simp only [List.length_drop, List.length_take]; rfl)) ?_; (with_reducible refine (targumref4_Norm.calls kj12 x5_9 t214 t215 _ A27.out).mono ?_); rintro e w' ⟨rfl, ⟨nd, rfl⟩⟩; refine ⟨_, rfl, ?_⟩))
           go_ret
           exact ⟨by first | rfl | (simp [errW_none, errW_some] <;> rfl) | (simp [*, errW_none, errW_some] <;> rfl), bl⟩
    ·rw [if_neg c8] at H
     exact absurd H (by simp)

end Go.Proofs.YtddaggnomcoejaaDoor.PD
