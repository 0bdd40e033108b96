/- Written by this session's own program (xprint, made over the kit's print): Lean functions with the same answers as the Go functions, and the proofs of that. Not trusted: Lean checks it. -/
import Derived.Test.YtbjlcipamdgnjaaDoorPNx0
import Derived.Test.YtbjlcipamdgnjaaDoorPNx6
import Derived.Test.YtbjlcipamdgnjaaDoorXW
namespace Go.Proofs.YtbjlcipamdgnjaaDoor.PN
open Go.Proofs.YtbjlcipamdgnjaaDoor.XW Go.RowKit Go.Proofs.YtbjlcipamdgnjaaDoorW.PrintWords Go.Proofs.YtbjlcipamdgnjaaDoorW.PrintLast Go.Proofs.YtbjlcipamdgnjaaDoorW.PrintMore
attribute [local go_sem] max2_int min2_int max_two min_two max_three min_three max_four min_four   -- for this text's walks alone
set_option linter.unusedVariables false
set_option linter.unusedSimpArgs false

/-! ### targumref4_Text: function 17 -/
def targumref4_Text.l0 : Nat → Int → ByteArray → Option (ByteArray)
 | 0, _, _ => none
 | k + 1, x0, x3 => (some (([(wrap64 (48 + (Int.tmod x0 10))) % 256] : List Int) : List Int)).bind fun y242 => (if (strOfNums y242).size + x3.size ≤ 9223372036854775807 then (if (wrap64 (Int.tdiv x0 10)) = 0 then (some ((strOfNums y242) ++ x3)) else (targumref4_Text.l0 k (wrap64 (Int.tdiv x0 10)) ((strOfNums y242) ++ x3))) else (none))
def targumref4_Text.f (k : Nat) (a0 : Int) : Option (ByteArray) := targumref4_Text.l0 k a0 (⟨#[]⟩ : ByteArray)
theorem targumref4_Text.mono_l : ∀ k, (∀ y0 y1, LeO (targumref4_Text.l0 k y0 y1) (targumref4_Text.l0 (k + 1) y0 y1))
 | 0 => fun _ _ r h => by simp [targumref4_Text.l0] at h
 | k + 1 => by
  have ih0 := targumref4_Text.mono_l k
  ·intro y0 y1
   unfold targumref4_Text.l0
   repeat' first
   | (with_reducible exact ih0 _ _)
   | (with_reducible exact LeO.refl _)
   | (with_reducible exact LeO.none _)
   | (with_reducible refine LeO.ite ?_ ?_)
   | (with_reducible refine LeO.bind ?_ (fun _ => ?_))
   | exact ih0 _ _
   | exact LeO.none _
   | refine LeO.ite ?_ ?_
   | refine LeO.bind ?_ (fun _ => ?_)
theorem targumref4_Text.mono : ∀ a0 k, LeO (targumref4_Text.f k a0) (targumref4_Text.f (k + 1) a0) := by
 intro a0 k
 have ih0 := targumref4_Text.mono_l k
 unfold targumref4_Text.f
 repeat' first
   | (with_reducible exact ih0 _ _)
   | (with_reducible exact LeO.refl _)
   | (with_reducible exact LeO.none _)
   | (with_reducible refine LeO.ite ?_ ?_)
   | (with_reducible refine LeO.bind ?_ (fun _ => ?_))
   | exact ih0 _ _
   | exact LeO.none _
   | refine LeO.ite ?_ ?_
   | refine LeO.bind ?_ (fun _ => ?_)
set_option maxHeartbeats 8000000 in
set_option maxRecDepth 100000 in
theorem targumref4_Text.calls (k : Nat) (a0 : Int) (r : ByteArray) (w : World) (h : targumref4_Text.f k a0 = some r) :
  Calls Tryd.prog 17 #[.int .i64 a0] w fun e w' => e = .returned (.string r) ∧ Below w.heap.size w w' := by
 have HB := Aside0.mk (Below.refl w.heap.size w)
 have H : (targumref4_Text.l0 k a0 (⟨#[]⟩ : ByteArray)) = some r := h
 clear h
 have H' := Aside0.mk H
 clear H
 go_enter Tryd.func17, Tryd.ntmps17
 go_wp2
 go_loopg [0, 3] k (fun kq v0 v3 w' => ∃ (x0_1 : Int) (x3_1 : ByteArray), v0 = .int .i64 x0_1 ∧ v3 = .string x3_1 ∧ Aside0 (targumref4_Text.l0 kq x0_1 x3_1 = some r) ∧ Aside0 (kq ≤ k) ∧ Aside0 (Below w.heap.size w w'))
 case atStart => exact ⟨(a0), ((⟨#[]⟩ : ByteArray)), (by first | rfl | (simp; done) | (simp [*]; done) | (simp [wrap64]; done)), (by first | rfl | (simp; done) | (simp [*]; done) | (simp [wrap64]; done)), H', ⟨Nat.le_refl _⟩, ⟨bl⟩⟩
 case round =>
  clear H'
  try clear c1
  obtain ⟨x0_1, x3_1, rfl, rfl, HA, HK1, HB⟩ := hrel
  cases gk with
  | zero => exact absurd HA.out (by simp [targumref4_Text.l0])
  | succ k1 =>
   have H := HA.out
   clear HA
   simp only [targumref4_Text.l0] at H
   obtain ⟨y242, hy242⟩ : ∃ y_ : List Int, y_ = (([(wrap64 (48 + (Int.tmod x0_1 10))) % 256] : List Int)) := ⟨_, rfl⟩
   replace H : (if (strOfNums y242).size + x3_1.size ≤ 9223372036854775807 then (if (wrap64 (Int.tdiv x0_1 10)) = 0 then (some ((strOfNums y242) ++ x3_1)) else (targumref4_Text.l0 k1 (wrap64 (Int.tdiv x0_1 10)) ((strOfNums y242) ++ x3_1))) else (none)) = some r := by first | (rw [hy242]; with_reducible exact H) | (have H2_ := (Option.bind_some _ _).symm.trans H; rw [hy242]; with_reducible exact H2_) | (have H2_ := (Option.bind_some _ _).symm.trans H; with_reducible exact H2_) | with_reducible exact H | (rw [hy242]; exact H) | exact H
   have Ny242 := Aside0.mk hy242
   clear hy242
   by_cases c2 : (strOfNums y242).size + x3_1.size ≤ 9223372036854775807
   ·rw [if_pos c2] at H
    have c2b0 := eq_true c2
    have c2b1 : decide ((strOfNums y242).size + x3_1.size ≤ 9223372036854775807) = true := decide_eq_true c2
    try have c2b2 : (9223372036854775807 < (strOfNums y242).size + x3_1.size) = False := eq_false (Nat.not_lt.2 c2)
    by_cases c3 : (wrap64 (Int.tdiv x0_1 10)) = 0
    ·rw [if_pos c3] at H
     have c3b0 : ((wrap64 (Int.tdiv x0_1 10)) == 0) = true := beq_iff_eq.mpr c3
     have c3b1 : ((wrap64 (Int.tdiv x0_1 10)) != 0) = false := bne_eq_false_iff_eq.mpr c3
     clear c3
     obtain rfl := Option.some.inj H
     go_wp2_with (first | ((with_reducible refine gate_dst (N := 8) rfl ?_); refine Kd.R_lit (Kd.int .u8) _ 5 ?hg (N := 8) ?hd (xs := ([(wrap64 (48 + (Int.tmod x0_1 10))) % 256] : List Int)) (inner := [.int .u8 ((wrap64 (48 + (Int.tmod x0_1 10))) % 256)]) (ok := fun _ => True) (okp := fun _ => True) ?hr ?hp (fun _ hk => hk) trivial (Below.refl _ _) (Nat.le_refl _) (by simp) ?_; (case hd => rfl); (case hg => rfl); (case hr => first | (go_simp; done) | (go_simp; rfl)); (case hp => exact (Reps.one (show Kd.M (Kd.int .u8) _ _ _ ((wrap64 (48 + (Int.tmod x0_1 10))) % 256) [.int .u8 ((wrap64 (48 + (Int.tmod x0_1 10))) % 256)] from rfl) (Reps.none _ _))); intro v243 w4 ho5 hb hg_ hnew_; clear hg_ hnew_; (first | rw [← Ny242.out] at ho5 | (simp only [Int.reduceToNat] at ho5; rw [← Ny242.out] at ho5)); have n0_ := Aside0.mk (Kd.R_lower ho5 (below_size bl)); have n1_ := Aside0.mk (below_step bl hb); clear HB; have HO244 := n0_; have HB := n1_; clear n0_ n1_; clear hb ho5; have hcv6 := own_string (P := Tryd.prog) Tryd.underlying22 Tryd.underlying5 Tryd.underlying9 (Kd.own_of_R HO244.out)))
     go_ret
     exact ⟨by first | rfl | (simp [errW_none, errW_some] <;> rfl) | (simp [*, errW_none, errW_some] <;> rfl), bl⟩
    ·rw [if_neg c3] at H
     have c3b0 : ((wrap64 (Int.tdiv x0_1 10)) == 0) = false := beq_eq_false_iff_ne.mpr c3
     have c3b1 : ((wrap64 (Int.tdiv x0_1 10)) != 0) = true := bne_iff_ne.mpr c3
     have H' := Aside0.mk H
     clear H
     go_wp2_with (first | ((with_reducible refine gate_dst (N := 8) rfl ?_); refine Kd.R_lit (Kd.int .u8) _ 5 ?hg (N := 8) ?hd (xs := ([(wrap64 (48 + (Int.tmod x0_1 10))) % 256] : List Int)) (inner := [.int .u8 ((wrap64 (48 + (Int.tmod x0_1 10))) % 256)]) (ok := fun _ => True) (okp := fun _ => True) ?hr ?hp (fun _ hk => hk) trivial (Below.refl _ _) (Nat.le_refl _) (by simp) ?_; (case hd => rfl); (case hg => rfl); (case hr => first | (go_simp; done) | (go_simp; rfl)); (case hp => exact (Reps.one (show Kd.M (Kd.int .u8) _ _ _ ((wrap64 (48 + (Int.tmod x0_1 10))) % 256) [.int .u8 ((wrap64 (48 + (Int.tmod x0_1 10))) % 256)] from rfl) (Reps.none _ _))); intro v243 w7 ho8 hb hg_ hnew_; clear hg_ hnew_; (first | rw [← Ny242.out] at ho8 | (simp only [Int.reduceToNat] at ho8; rw [← Ny242.out] at ho8)); have n0_ := Aside0.mk (Kd.R_lower ho8 (below_size bl)); have n1_ := Aside0.mk (below_step bl hb); clear HB; have HO244 := n0_; have HB := n1_; clear n0_ n1_; clear hb ho8; have hcv9 := own_string (P := Tryd.prog) Tryd.underlying22 Tryd.underlying5 Tryd.underlying9 (Kd.own_of_R HO244.out)))
     go_roundg k1
     case measure => have := HK1.out; omega
     case rel => exact ⟨(wrap64 (Int.tdiv x0_1 10)), ((strOfNums y242) ++ x3_1), (by first | rfl | (simp; done) | (simp [*]; done) | (simp [wrap64]; done)), (by first | rfl | (simp; done) | (simp [*]; done) | (simp [wrap64]; done)), H', ⟨by have := HK1.out; omega⟩, ⟨bl⟩⟩
   ·rw [if_neg c2] at H
    exact absurd H (by simp)

/-! ### targumref4_Good: function 34 -/
def targumref4_Good.f (k : Nat) (a0 : ByteArray) : Option (Bool) := if a0.toList = ([48] : List UInt8) then (some true) else (if (a0.size : Int) > 0 then (if 0 < (a0.size : Int) then (if (bt a0 0) = 45 then (if 1 ≤ (a0.size : Int) then ((targumref4_Digits.f k (a0.extract 1 a0.size)).bind fun t245 => (if t245 = true then (if 0 < ((a0.extract 1 a0.size).size : Int) then (some ((bt (a0.extract 1 a0.size) 0) != 48)) else (none)) else (some false))) else (none)) else ((targumref4_Digits.f k a0).bind fun t246 => (if t246 = true then (some ((bt a0 0) != 48)) else (some false)))) else (none)) else ((targumref4_Digits.f k a0).bind fun t247 => (if t247 = true then (if 0 < (a0.size : Int) then (some ((bt a0 0) != 48)) else (none)) else (some false))))
theorem targumref4_Good.mono : ∀ a0 k, LeO (targumref4_Good.f k a0) (targumref4_Good.f (k + 1) a0) := by
 intro a0 k
 unfold targumref4_Good.f
 repeat' first
   | (with_reducible exact targumref4_Digits.mono _ _)
   | (with_reducible exact LeO.refl _)
   | (with_reducible exact LeO.none _)
   | (with_reducible refine LeO.ite ?_ ?_)
   | (with_reducible refine LeO.bind ?_ (fun _ => ?_))
   | exact targumref4_Digits.mono _ _
   | exact LeO.none _
   | refine LeO.ite ?_ ?_
   | refine LeO.bind ?_ (fun _ => ?_)
set_option maxHeartbeats 8000000 in
set_option maxRecDepth 100000 in
theorem targumref4_Good.calls (k : Nat) (a0 : ByteArray) (r : Bool) (w : World) (h : targumref4_Good.f k a0 = some r) :
  Calls Tryd.prog 34 #[.string a0] w fun e w' => e = .returned (.bool r) ∧ Drawn0 w w' := by
 have H : (if a0.toList = ([48] : List UInt8) then (some true) else (if (a0.size : Int) > 0 then (if 0 < (a0.size : Int) then (if (bt a0 0) = 45 then (if 1 ≤ (a0.size : Int) then ((targumref4_Digits.f k (a0.extract 1 a0.size)).bind fun t245 => (if t245 = true then (if 0 < ((a0.extract 1 a0.size).size : Int) then (some ((bt (a0.extract 1 a0.size) 0) != 48)) else (none)) else (some false))) else (none)) else ((targumref4_Digits.f k a0).bind fun t246 => (if t246 = true then (some ((bt a0 0) != 48)) else (some false)))) else (none)) else ((targumref4_Digits.f k a0).bind fun t247 => (if t247 = true then (if 0 < (a0.size : Int) then (some ((bt a0 0) != 48)) else (none)) else (some false))))) = some r := h
 clear h
 by_cases c2 : a0.toList = ([48] : List UInt8)
 ·rw [if_pos c2] at H
  have c2b0 : (a0.toList == ([48] : List UInt8)) = true := beq_iff_eq.mpr c2
  have c2b1 : (a0.toList != ([48] : List UInt8)) = false := bne_eq_false_iff_eq.mpr c2
  clear c2
  obtain rfl := Option.some.inj H
  go_enter Tryd.func34, Tryd.ntmps34
  go_wp2
  go_ret
  exact ⟨by first | rfl | (simp; done) | (simp [*]; done) | (simp [wrap64]; done), by repeat (first | exact Drawn0.refl _ | apply Drawn0.step)⟩
 ·rw [if_neg c2] at H
  have c2b0 : (a0.toList == ([48] : List UInt8)) = false := beq_eq_false_iff_ne.mpr c2
  have c2b1 : (a0.toList != ([48] : List UInt8)) = true := bne_iff_ne.mpr c2
  by_cases c3 : (a0.size : Int) > 0
  ·rw [if_pos c3] at H
   have c3b0 : decide (0 < (a0.size : Int)) = true := decide_eq_true c3
   have c3b1 : decide (0 < a0.size) = true := decide_eq_true (by omega)
   clear c3
   by_cases c4 : 0 < (a0.size : Int)
   ·rw [if_pos c4] at H
    have c4b0 : decide (0 < (a0.size : Int)) = true := decide_eq_true c4
    have c4b1 : decide (0 < a0.size) = true := decide_eq_true (by omega)
    clear c4
    by_cases c6 : (bt a0 0) = 45
    ·rw [if_pos c6] at H
     have c6b0 : ((bt a0 0) == 45) = true := beq_iff_eq.mpr c6
     have c6b1 : ((bt a0 0) != 45) = false := bne_eq_false_iff_eq.mpr c6
     clear c6
     by_cases c7 : 1 ≤ (a0.size : Int)
     ·rw [if_pos c7] at H
      have c7b0 := eq_true c7
      have c7b1 : decide (1 ≤ (a0.size : Int)) = true := decide_eq_true c7
      clear c7
      replace H := Option.bind_eq_some_iff.mp H
      obtain ⟨t245, A80, H⟩ := H
      replace H : (if t245 = true then (if 0 < ((a0.extract 1 a0.size).size : Int) then (some ((bt (a0.extract 1 a0.size) 0) != 48)) else (none)) else (some false)) = some r := H
      have A8 := Aside0.mk A80
      clear A80
      by_cases c9 : t245 = true
      ·subst c9
       have H1 : (if 0 < ((a0.extract 1 a0.size).size : Int) then (some ((bt (a0.extract 1 a0.size) 0) != 48)) else (none)) = some r := by rw [if_pos rfl] at H; exact H
       clear H
       have H := H1
       clear H1
       by_cases c10 : 0 < ((a0.extract 1 a0.size).size : Int)
       ·rw [if_pos c10] at H
        have c10b0 : decide (0 < ((a0.extract 1 a0.size).size : Int)) = true := decide_eq_true c10
        have c10b1 : decide (0 < (a0.extract 1 a0.size).size) = true := decide_eq_true (by omega)
        (try (have c10b2 : decide (0 < a0.size - 1) = true := decide_eq_true (by have h_ := c10; simp only [ByteArray.size_extract, Nat.min_self] at h_; omega)))
        (try (have c10b3 : decide (0 < ((a0.size - 1 : Nat) : Int)) = true := decide_eq_true (by have h_ := c10; simp only [ByteArray.size_extract, Nat.min_self] at h_; omega)))
        clear c10
        obtain rfl := Option.some.inj H
        have p5 : 0 ≤ (0 : Int) := (by omega)
        have q5 : 0 < a0.size := (by have : (0 : Int) < (a0.size : Int) := of_decide_eq_true (by first | (with_reducible assumption) | assumption); omega)
        have hx5 : ∀ h : 0 < a0.size, ((a0[0]'h).toNat : Int) = bt a0 0 := bt_at a0 0
        clear p5
        have qi5 : (0 < (a0.size : Int)) = True := eq_true (of_decide_eq_true (by first | (with_reducible assumption) | assumption))
        replace q5 := eq_true q5
        go_enter Tryd.func34, Tryd.ntmps34
        go_wp2_with (first | ((with_reducible refine gate_callee (f := 33) rfl ?_); refine goesL_ (some 16) rfl rfl Tryd.func33 (by kernel_rfl) rfl #[.string (a0.extract 1 a0.size)] rfl (by (try simp only [List.map_toArray, List.map_cons, List.map_nil]); first | done | rfl | (simp only [List.length_drop, List.length_take]; rfl)) ?_; (with_reducible refine (targumref4_Digits.calls k (a0.extract 1 a0.size) true _ A8.out).mono ?_); rintro e w' ⟨rfl, ⟨nd, rfl⟩⟩; refine ⟨_, rfl, ?_⟩; have p11 : 0 ≤ (0 : Int) := (by omega); have q11 : 0 < (a0.extract 1 a0.size).size := (by have : (0 : Int) < ((a0.extract 1 a0.size).size : Int) := of_decide_eq_true (by first | (with_reducible assumption) | assumption); omega); have hx11 : ∀ h : 0 < (a0.extract 1 a0.size).size, (((a0.extract 1 a0.size)[0]'h).toNat : Int) = bt (a0.extract 1 a0.size) 0 := bt_at (a0.extract 1 a0.size) 0; clear p11; have qi11 : (0 < ((a0.extract 1 a0.size).size : Int)) = True := eq_true (of_decide_eq_true (by first | (with_reducible assumption) | assumption)); replace q11 := eq_true q11; (try have qe11 : (0 < a0.size - 1) = True := eq_true (by have h_ := of_eq_true qi11; simp only [ByteArray.size_extract, Nat.min_self] at h_; omega))))
        go_ret
        exact ⟨by first | rfl | (simp; done) | (simp [*]; done) | (simp [wrap64]; done), by repeat (first | exact Drawn0.refl _ | apply Drawn0.step)⟩
       ·rw [if_neg c10] at H
        exact absurd H (by simp)
      ·replace c9 := Bool.eq_false_iff.mpr c9
       subst c9
       have H1 : (some false) = some r := by rw [if_neg (show ¬ (false = true) by decide)] at H; exact H
       clear H
       have H := H1
       clear H1
       obtain rfl := Option.some.inj H
       have p5 : 0 ≤ (0 : Int) := (by omega)
       have q5 : 0 < a0.size := (by have : (0 : Int) < (a0.size : Int) := of_decide_eq_true (by first | (with_reducible assumption) | assumption); omega)
       have hx5 : ∀ h : 0 < a0.size, ((a0[0]'h).toNat : Int) = bt a0 0 := bt_at a0 0
       clear p5
       have qi5 : (0 < (a0.size : Int)) = True := eq_true (of_decide_eq_true (by first | (with_reducible assumption) | assumption))
       replace q5 := eq_true q5
       go_enter Tryd.func34, Tryd.ntmps34
       go_wp2_with (first | ((with_reducible refine gate_callee (f := 33) rfl ?_); refine goesL_ (some 16) rfl rfl Tryd.func33 (by kernel_rfl) rfl #[.string (a0.extract 1 a0.size)] rfl (by (try simp only [List.map_toArray, List.map_cons, List.map_nil]); first | done | rfl | (simp only [List.length_drop, List.length_take]; rfl)) ?_; (with_reducible refine (targumref4_Digits.calls k (a0.extract 1 a0.size) false _ A8.out).mono ?_); rintro e w' ⟨rfl, ⟨nd, rfl⟩⟩; refine ⟨_, rfl, ?_⟩))
       go_ret
       exact ⟨by first | rfl | (simp; done) | (simp [*]; done) | (simp [wrap64]; done), by repeat (first | exact Drawn0.refl _ | apply Drawn0.step)⟩
     ·rw [if_neg c7] at H
      exact absurd H (by simp)
    ·rw [if_neg c6] at H
     have c6b0 : ((bt a0 0) == 45) = false := beq_eq_false_iff_ne.mpr c6
     have c6b1 : ((bt a0 0) != 45) = true := bne_iff_ne.mpr c6
     replace H := Option.bind_eq_some_iff.mp H
     obtain ⟨t246, A120, H⟩ := H
     replace H : (if t246 = true then (some ((bt a0 0) != 48)) else (some false)) = some r := H
     have A12 := Aside0.mk A120
     clear A120
     by_cases c13 : t246 = true
     ·subst c13
      have H1 : (some ((bt a0 0) != 48)) = some r := by rw [if_pos rfl] at H; exact H
      clear H
      have H := H1
      clear H1
      obtain rfl := Option.some.inj H
      have p5 : 0 ≤ (0 : Int) := (by omega)
      have q5 : 0 < a0.size := (by have : (0 : Int) < (a0.size : Int) := of_decide_eq_true (by first | (with_reducible assumption) | assumption); omega)
      have hx5 : ∀ h : 0 < a0.size, ((a0[0]'h).toNat : Int) = bt a0 0 := bt_at a0 0
      clear p5
      have qi5 : (0 < (a0.size : Int)) = True := eq_true (of_decide_eq_true (by first | (with_reducible assumption) | assumption))
      replace q5 := eq_true q5
      go_enter Tryd.func34, Tryd.ntmps34
      go_wp2_with (first | ((with_reducible refine gate_callee (f := 33) rfl ?_); refine goesL_ (some 16) rfl rfl Tryd.func33 (by kernel_rfl) rfl #[.string a0] rfl (by (try simp only [List.map_toArray, List.map_cons, List.map_nil]); first | done | rfl | (simp only [List.length_drop, List.length_take]; rfl)) ?_; (with_reducible refine (targumref4_Digits.calls k a0 true _ A12.out).mono ?_); rintro e w' ⟨rfl, ⟨nd, rfl⟩⟩; refine ⟨_, rfl, ?_⟩; have p14 : 0 ≤ (0 : Int) := (by omega); have q14 : 0 < a0.size := (by have : (0 : Int) < (a0.size : Int) := of_decide_eq_true (by first | (with_reducible assumption) | assumption); omega); have hx14 : ∀ h : 0 < a0.size, ((a0[0]'h).toNat : Int) = bt a0 0 := bt_at a0 0; clear p14; have qi14 : (0 < (a0.size : Int)) = True := eq_true (of_decide_eq_true (by first | (with_reducible assumption) | assumption)); replace q14 := eq_true q14))
      go_ret
      exact ⟨by first | rfl | (simp; done) | (simp [*]; done) | (simp [wrap64]; done), by repeat (first | exact Drawn0.refl _ | apply Drawn0.step)⟩
     ·replace c13 := Bool.eq_false_iff.mpr c13
      subst c13
      have H1 : (some false) = some r := by rw [if_neg (show ¬ (false = true) by decide)] at H; exact H
      clear H
      have H := H1
      clear H1
      obtain rfl := Option.some.inj H
      have p5 : 0 ≤ (0 : Int) := (by omega)
      have q5 : 0 < a0.size := (by have : (0 : Int) < (a0.size : Int) := of_decide_eq_true (by first | (with_reducible assumption) | assumption); omega)
      have hx5 : ∀ h : 0 < a0.size, ((a0[0]'h).toNat : Int) = bt a0 0 := bt_at a0 0
      clear p5
      have qi5 : (0 < (a0.size : Int)) = True := eq_true (of_decide_eq_true (by first | (with_reducible assumption) | assumption))
      replace q5 := eq_true q5
      go_enter Tryd.func34, Tryd.ntmps34
      go_wp2_with (first | ((with_reducible refine gate_callee (f := 33) rfl ?_); refine goesL_ (some 16) rfl rfl Tryd.func33 (by kernel_rfl) rfl #[.string a0] rfl (by (try simp only [List.map_toArray, List.map_cons, List.map_nil]); first | done | rfl | (simp only [List.length_drop, List.length_take]; rfl)) ?_; (with_reducible refine (targumref4_Digits.calls k a0 false _ A12.out).mono ?_); rintro e w' ⟨rfl, ⟨nd, rfl⟩⟩; refine ⟨_, rfl, ?_⟩))
      go_ret
      exact ⟨by first | rfl | (simp; done) | (simp [*]; done) | (simp [wrap64]; done), by repeat (first | exact Drawn0.refl _ | apply Drawn0.step)⟩
   ·rw [if_neg c4] at H
    exact absurd H (by simp)
  ·rw [if_neg c3] at H
   have c3b0 : decide (0 < (a0.size : Int)) = false := decide_eq_false c3
   have c3b1 : decide (0 < a0.size) = false := decide_eq_false (by omega)
   clear c3
   replace H := Option.bind_eq_some_iff.mp H
   obtain ⟨t247, A150, H⟩ := H
   replace H : (if t247 = true then (if 0 < (a0.size : Int) then (some ((bt a0 0) != 48)) else (none)) else (some false)) = some r := H
   have A15 := Aside0.mk A150
   clear A150
   by_cases c16 : t247 = true
   ·subst c16
    have H1 : (if 0 < (a0.size : Int) then (some ((bt a0 0) != 48)) else (none)) = some r := by rw [if_pos rfl] at H; exact H
    clear H
    have H := H1
    clear H1
    by_cases c17 : 0 < (a0.size : Int)
    ·rw [if_pos c17] at H
     have c17b0 : decide (0 < (a0.size : Int)) = true := decide_eq_true c17
     have c17b1 : decide (0 < a0.size) = true := decide_eq_true (by omega)
     clear c17
     obtain rfl := Option.some.inj H
     go_enter Tryd.func34, Tryd.ntmps34
     go_wp2_with (first | ((with_reducible refine gate_callee (f := 33) rfl ?_); refine goesL_ (some 16) rfl rfl Tryd.func33 (by kernel_rfl) rfl #[.string a0] rfl (by (try simp only [List.map_toArray, List.map_cons, List.map_nil]); first | done | rfl | (simp only [List.length_drop, List.length_take]; rfl)) ?_; (with_reducible refine (targumref4_Digits.calls k a0 true _ A15.out).mono ?_); rintro e w' ⟨rfl, ⟨nd, rfl⟩⟩; refine ⟨_, rfl, ?_⟩; have p18 : 0 ≤ (0 : Int) := (by omega); have q18 : 0 < a0.size := (by have : (0 : Int) < (a0.size : Int) := of_decide_eq_true (by first | (with_reducible assumption) | assumption); omega); have hx18 : ∀ h : 0 < a0.size, ((a0[0]'h).toNat : Int) = bt a0 0 := bt_at a0 0; clear p18; have qi18 : (0 < (a0.size : Int)) = True := eq_true (of_decide_eq_true (by first | (with_reducible assumption) | assumption)); replace q18 := eq_true q18))
     go_ret
     exact ⟨by first | rfl | (simp; done) | (simp [*]; done) | (simp [wrap64]; done), by repeat (first | exact Drawn0.refl _ | apply Drawn0.step)⟩
    ·rw [if_neg c17] at H
     exact absurd H (by simp)
   ·replace c16 := Bool.eq_false_iff.mpr c16
    subst c16
    have H1 : (some false) = some r := by rw [if_neg (show ¬ (false = true) by decide)] at H; exact H
    clear H
    have H := H1
    clear H1
    obtain rfl := Option.some.inj H
    go_enter Tryd.func34, Tryd.ntmps34
    go_wp2_with (first | ((with_reducible refine gate_callee (f := 33) rfl ?_); refine goesL_ (some 16) rfl rfl Tryd.func33 (by kernel_rfl) rfl #[.string a0] rfl (by (try simp only [List.map_toArray, List.map_cons, List.map_nil]); first | done | rfl | (simp only [List.length_drop, List.length_take]; rfl)) ?_; (with_reducible refine (targumref4_Digits.calls k a0 false _ A15.out).mono ?_); rintro e w' ⟨rfl, ⟨nd, rfl⟩⟩; refine ⟨_, rfl, ?_⟩))
    go_ret
    exact ⟨by first | rfl | (simp; done) | (simp [*]; done) | (simp [wrap64]; done), by repeat (first | exact Drawn0.refl _ | apply Drawn0.step)⟩

/-! ### targumref4_compare: function 36 -/

def targumref4_compare.f (a0 : ByteArray) (a1 : ByteArray) : Option (Int) := some (if a0.size < a1.size then -1 else if a1.size < a0.size then 1 else if Op.bytesLess a0.toList a1.toList = true then -1 else if (a0.toList == a1.toList) = true then 0 else 1)
set_option maxHeartbeats 8000000 in
theorem targumref4_compare.calls (a0 : ByteArray) (a1 : ByteArray) (r : Int) (w : World) (h : targumref4_compare.f a0 a1 = some r) :
  Calls Tryd.prog 36 #[.string a0, .string a1] w fun e w' => e = .returned (.int .i64 r) ∧ Drawn0 w w' := by
 unfold targumref4_compare.f at h
 obtain rfl := Option.some.inj h
 clear h
 by_cases c3 : a0.size < a1.size
 ·rw [if_pos c3]
  have c3b0 : decide ((a0.size : Int) < (a1.size : Int)) = true := decide_eq_true (by omega)
  have c3b1 : decide (a0.size < a1.size) = true := decide_eq_true c3
  clear c3
  go_enter Tryd.func36, Tryd.ntmps36
  go_wp2
  go_ret
  exact ⟨rfl, Drawn0.refl _⟩
 ·rw [if_neg c3]
  have c3b0 : decide ((a0.size : Int) < (a1.size : Int)) = false := decide_eq_false (by omega)
  have c3b1 : decide (a0.size < a1.size) = false := decide_eq_false c3
  by_cases c4 : a1.size < a0.size
  ·rw [if_pos c4]
   have c4b0 : decide ((a1.size : Int) < (a0.size : Int)) = true := decide_eq_true (by omega)
   have c4b1 : decide (a1.size < a0.size) = true := decide_eq_true c4
   clear c3 c4
   go_enter Tryd.func36, Tryd.ntmps36
   go_wp2
   go_ret
   exact ⟨rfl, Drawn0.refl _⟩
  ·rw [if_neg c4]
   have c4b0 : decide ((a1.size : Int) < (a0.size : Int)) = false := decide_eq_false (by omega)
   have c4b1 : decide (a1.size < a0.size) = false := decide_eq_false c4
   clear c3 c4
   by_cases c5 : Op.bytesLess a0.toList a1.toList = true
   ·rw [if_pos c5]
    go_enter Tryd.func36, Tryd.ntmps36
    go_wp2
    go_ret
    exact ⟨rfl, Drawn0.refl _⟩
   ·rw [if_neg c5]
    have c5b : Op.bytesLess a0.toList a1.toList = false := by simpa using c5
    clear c5
    by_cases c6 : (a0.toList == a1.toList) = true
    ·rw [if_pos c6]
     go_enter Tryd.func36, Tryd.ntmps36
     go_wp2
     go_ret
     exact ⟨rfl, Drawn0.refl _⟩
    ·rw [if_neg c6]
     have c6b : (a0.toList == a1.toList) = false := by simpa using c6
     clear c6
     go_enter Tryd.func36, Tryd.ntmps36
     go_wp2
     go_ret
     exact ⟨rfl, Drawn0.refl _⟩

/-! ### targumref4_less: function 37 -/
def targumref4_less.l0 : Nat → ByteArray → ByteArray → List Int → Int → Int → Option (ByteArray)
 | 0, _, _, _, _, _ => none
 | k + 1, x0, x1, x5, x6, x7 => if x7 < (x0.size : Int) then (if 0 ≤ (wrap64 ((wrap64 ((x0.size : Int) - 1)) - x7)) then (if (wrap64 ((wrap64 ((x0.size : Int) - 1)) - x7)) < (x0.size : Int) then (if x7 < (x1.size : Int) then (if 0 ≤ (wrap64 ((wrap64 ((x1.size : Int) - 1)) - x7)) then (if (wrap64 ((wrap64 ((x1.size : Int) - 1)) - x7)) < (x1.size : Int) then (if (wrap64 ((wrap64 ((((bt x0 (wrap64 ((wrap64 ((x0.size : Int) - 1)) - x7))) - 48) % 256) - x6)) - (((bt x1 (wrap64 ((wrap64 ((x1.size : Int) - 1)) - x7))) - 48) % 256))) < 0 then (if (wrap64 ((wrap64 ((x0.size : Int) - 1)) - x7)) < (x5.length : Int) then (targumref4_less.l0 k x0 x1 (x5.set ((wrap64 ((wrap64 ((x0.size : Int) - 1)) - x7)) : Int).toNat ((wrap64 (48 + (wrap64 ((wrap64 ((wrap64 ((((bt x0 (wrap64 ((wrap64 ((x0.size : Int) - 1)) - x7))) - 48) % 256) - x6)) - (((bt x1 (wrap64 ((wrap64 ((x1.size : Int) - 1)) - x7))) - 48) % 256))) + 10)))) % 256)) 1 (wrap64 (x7 + 1))) else (none)) else (if (wrap64 ((wrap64 ((x0.size : Int) - 1)) - x7)) < (x5.length : Int) then (targumref4_less.l0 k x0 x1 (x5.set ((wrap64 ((wrap64 ((x0.size : Int) - 1)) - x7)) : Int).toNat ((wrap64 (48 + (wrap64 ((wrap64 ((((bt x0 (wrap64 ((wrap64 ((x0.size : Int) - 1)) - x7))) - 48) % 256) - x6)) - (((bt x1 (wrap64 ((wrap64 ((x1.size : Int) - 1)) - x7))) - 48) % 256))))) % 256)) 0 (wrap64 (x7 + 1))) else (none))) else (none)) else (none)) else (if (wrap64 ((((bt x0 (wrap64 ((wrap64 ((x0.size : Int) - 1)) - x7))) - 48) % 256) - x6)) < 0 then (if (wrap64 ((wrap64 ((x0.size : Int) - 1)) - x7)) < (x5.length : Int) then (targumref4_less.l0 k x0 x1 (x5.set ((wrap64 ((wrap64 ((x0.size : Int) - 1)) - x7)) : Int).toNat ((wrap64 (48 + (wrap64 ((wrap64 ((((bt x0 (wrap64 ((wrap64 ((x0.size : Int) - 1)) - x7))) - 48) % 256) - x6)) + 10)))) % 256)) 1 (wrap64 (x7 + 1))) else (none)) else (if (wrap64 ((wrap64 ((x0.size : Int) - 1)) - x7)) < (x5.length : Int) then (targumref4_less.l0 k x0 x1 (x5.set ((wrap64 ((wrap64 ((x0.size : Int) - 1)) - x7)) : Int).toNat ((wrap64 (48 + (wrap64 ((((bt x0 (wrap64 ((wrap64 ((x0.size : Int) - 1)) - x7))) - 48) % 256) - x6)))) % 256)) 0 (wrap64 (x7 + 1))) else (none)))) else (none)) else (none)) else ((targumref4_Norm.f k false (strOfNums x5)).bind fun t251 => (some t251))
def targumref4_less.f (k : Nat) (a0 : ByteArray) (a1 : ByteArray) : Option (ByteArray) := if 0 ≤ (a0.size : Int) then (if ((a0.size : Int) : Int).toNat ≤ 281474976710656 then (targumref4_less.l0 k a0 a1 (List.replicate ((a0.size : Int) : Int).toNat 0) 0 0) else (none)) else (none)
theorem targumref4_less.mono_l : ∀ k, (∀ y0 y1 y2 y3 y4, LeO (targumref4_less.l0 k y0 y1 y2 y3 y4) (targumref4_less.l0 (k + 1) y0 y1 y2 y3 y4))
 | 0 => fun _ _ _ _ _ r h => by simp [targumref4_less.l0] at h
 | k + 1 => by
  have ih0 := targumref4_less.mono_l k
  ·intro y0 y1 y2 y3 y4
   unfold targumref4_less.l0
   repeat' first
   | (with_reducible exact ih0 _ _ _ _ _)
   | (with_reducible exact targumref4_Norm.mono _ _ _)
   | (with_reducible exact LeO.refl _)
   | (with_reducible exact LeO.none _)
   | (with_reducible refine LeO.ite ?_ ?_)
   | (with_reducible refine LeO.bind ?_ (fun _ => ?_))
   | exact ih0 _ _ _ _ _
   | exact targumref4_Norm.mono _ _ _
   | exact LeO.none _
   | refine LeO.ite ?_ ?_
   | refine LeO.bind ?_ (fun _ => ?_)
theorem targumref4_less.mono : ∀ a0 a1 k, LeO (targumref4_less.f k a0 a1) (targumref4_less.f (k + 1) a0 a1) := by
 intro a0 a1 k
 have ih0 := targumref4_less.mono_l k
 unfold targumref4_less.f
 repeat' first
   | (with_reducible exact ih0 _ _ _ _ _)
   | (with_reducible exact targumref4_Norm.mono _ _ _)
   | (with_reducible exact LeO.refl _)
   | (with_reducible exact LeO.none _)
   | (with_reducible refine LeO.ite ?_ ?_)
   | (with_reducible refine LeO.bind ?_ (fun _ => ?_))
   | exact ih0 _ _ _ _ _
   | exact targumref4_Norm.mono _ _ _
   | exact LeO.none _
   | refine LeO.ite ?_ ?_
   | refine LeO.bind ?_ (fun _ => ?_)
set_option maxHeartbeats 8000000 in
set_option maxRecDepth 100000 in
theorem targumref4_less.calls (k : Nat) (a0 : ByteArray) (a1 : ByteArray) (r : ByteArray) (w : World) (h : targumref4_less.f k a0 a1 = some r) :
  Calls Tryd.prog 37 #[.string a0, .string a1] w fun e w' => e = .returned (.string r) ∧ Below w.heap.size w w' := by
 have HB := Aside0.mk (Below.refl w.heap.size w)
 have H : (if 0 ≤ (a0.size : Int) then (if ((a0.size : Int) : Int).toNat ≤ 281474976710656 then (targumref4_less.l0 k a0 a1 (List.replicate ((a0.size : Int) : Int).toNat 0) 0 0) else (none)) else (none)) = some r := h
 clear h
 by_cases c3 : 0 ≤ (a0.size : Int)
 ·rw [if_pos c3] at H
  have c3b0 := eq_true c3
  have c3b1 : decide (0 ≤ (a0.size : Int)) = true := decide_eq_true c3
  clear c3
  by_cases c4 : ((a0.size : Int) : Int).toNat ≤ 281474976710656
  ·rw [if_pos c4] at H
   have c4b0 := eq_true c4
   have c4b1 : decide (((a0.size : Int) : Int).toNat ≤ 281474976710656) = true := decide_eq_true c4
   clear c4
   obtain ⟨y248, hy248⟩ : ∃ y_ : List Int, y_ = (List.replicate ((a0.size : Int) : Int).toNat 0) := ⟨_, rfl⟩
   replace H : (targumref4_less.l0 k a0 a1 y248 0 0) = some r := by first | (rw [hy248]; with_reducible exact H) | (have H2_ := (Option.bind_some _ _).symm.trans H; rw [hy248]; with_reducible exact H2_) | (have H2_ := (Option.bind_some _ _).symm.trans H; with_reducible exact H2_) | with_reducible exact H | (rw [hy248]; exact H) | exact H
   have Ny248 := Aside0.mk hy248
   clear hy248
   have H' := Aside0.mk H
   clear H
   go_enter Tryd.func37, Tryd.ntmps37
   go_wp2_with (first | ((with_reducible refine gate_dst (N := 11) rfl ?_); refine Kd.R_make (Kd.int .u8) _ 5 rfl (N := 11) rfl 22 _ _ rfl (a0.size : Int) rfl rfl Tryd.underlying22 (.int .u8 0) 1 info5 rfl (by decide) (by omega) 0 (ok := fun _ => True) (okp := fun _ => True) rfl (fun _ hk => hk) trivial (of_decide_eq_true (by first | (with_reducible assumption) | assumption)) (Nat.le_trans (Nat.mul_le_mul_right _ (of_decide_eq_true (by first | (with_reducible assumption) | assumption) : (a0.size : Int).toNat ≤ 281474976710656)) (by omega)) (Below.refl _ _) (Nat.le_refl _) ?_; intro v249 w5 ho6 hb hg_ hnew_; clear hg_ hnew_; (first | rw [← Ny248.out] at ho6 | (simp only [Int.reduceToNat] at ho6; rw [← Ny248.out] at ho6)); have n0_ := Aside0.mk (Kd.R_lower ho6 (below_size bl)); have n1_ := Aside0.mk (below_step bl hb); clear HB; have HO250 := n0_; have HB := n1_; clear n0_ n1_; clear hb ho6))
   go_loopg [6, 7] k (fun kq v6 v7 w' => ∃ (x5_1 : List Int) (x6_1 : Int) (x7_1 : Int), v6 = .int .i64 x6_1 ∧ v7 = .int .i64 x7_1 ∧ Aside0 (targumref4_less.l0 kq a0 a1 x5_1 x6_1 x7_1 = some r) ∧ Aside0 (kq ≤ k) ∧ Aside0 (Kd.R (Kd.int .u8) 5 w' w.heap.size (fun _ => True) v249 x5_1) ∧ Aside0 (Below w.heap.size w w'))
   case atStart => exact ⟨(y248), (0), (0), (by first | rfl | (simp; done) | (simp [*]; done) | (simp [wrap64]; done)), (by first | rfl | (simp; done) | (simp [*]; done) | (simp [wrap64]; done)), H', ⟨Nat.le_refl _⟩, ⟨by (with_reducible repeat (first | apply Kd.R_alloc | apply Kd.R_drewN | apply Kd.R_drew)); exact HO250.out⟩, ⟨bl⟩⟩
   case round =>
    clear H'
    try clear p2; try clear c3; try clear c3b0; try clear c3b1; try clear c4; try clear c4b0; try clear c4b1
    obtain ⟨x5_1, x6_1, x7_1, rfl, rfl, HA, HK1, HO_5, HB⟩ := hrel
    cases gk with
    | zero => exact absurd HA.out (by simp [targumref4_less.l0])
    | succ k1 =>
     have H := HA.out
     clear HA
     simp only [targumref4_less.l0] at H
     by_cases c7 : x7_1 < (a0.size : Int)
     ·rw [if_pos c7] at H
      have c7b0 : decide (x7_1 < (a0.size : Int)) = true := decide_eq_true c7
      clear c7
      obtain ⟨ji8, hji8⟩ : ∃ j_ : Int, (wrap64 ((wrap64 ((a0.size : Int) - 1)) - x7_1)) = j_ := ⟨_, rfl⟩
      replace H : (if 0 ≤ (ji8) then (if (ji8) < (a0.size : Int) then (if x7_1 < (a1.size : Int) then (if 0 ≤ (wrap64 ((wrap64 ((a1.size : Int) - 1)) - x7_1)) then (if (wrap64 ((wrap64 ((a1.size : Int) - 1)) - x7_1)) < (a1.size : Int) then (if (wrap64 ((wrap64 ((((bt a0 (ji8)) - 48) % 256) - x6_1)) - (((bt a1 (wrap64 ((wrap64 ((a1.size : Int) - 1)) - x7_1))) - 48) % 256))) < 0 then (if (ji8) < (x5_1.length : Int) then (targumref4_less.l0 k1 a0 a1 (x5_1.set ((ji8) : Int).toNat ((wrap64 (48 + (wrap64 ((wrap64 ((wrap64 ((((bt a0 (ji8)) - 48) % 256) - x6_1)) - (((bt a1 (wrap64 ((wrap64 ((a1.size : Int) - 1)) - x7_1))) - 48) % 256))) + 10)))) % 256)) 1 (wrap64 (x7_1 + 1))) else (none)) else (if (ji8) < (x5_1.length : Int) then (targumref4_less.l0 k1 a0 a1 (x5_1.set ((ji8) : Int).toNat ((wrap64 (48 + (wrap64 ((wrap64 ((((bt a0 (ji8)) - 48) % 256) - x6_1)) - (((bt a1 (wrap64 ((wrap64 ((a1.size : Int) - 1)) - x7_1))) - 48) % 256))))) % 256)) 0 (wrap64 (x7_1 + 1))) else (none))) else (none)) else (none)) else (if (wrap64 ((((bt a0 (ji8)) - 48) % 256) - x6_1)) < 0 then (if (ji8) < (x5_1.length : Int) then (targumref4_less.l0 k1 a0 a1 (x5_1.set ((ji8) : Int).toNat ((wrap64 (48 + (wrap64 ((wrap64 ((((bt a0 (ji8)) - 48) % 256) - x6_1)) + 10)))) % 256)) 1 (wrap64 (x7_1 + 1))) else (none)) else (if (ji8) < (x5_1.length : Int) then (targumref4_less.l0 k1 a0 a1 (x5_1.set ((ji8) : Int).toNat ((wrap64 (48 + (wrap64 ((((bt a0 (ji8)) - 48) % 256) - x6_1)))) % 256)) 0 (wrap64 (x7_1 + 1))) else (none)))) else (none)) else (none)) = some r := by first | (rw [hji8] at H; exact H) | (simp only [hji8] at H ⊢; exact H)
      have hji8w : (IntKind.i64.wrap ((wrap64 ((a0.size : Int) - 1)) - x7_1)) = ji8 := (i64_w _).trans hji8
      by_cases c9 : 0 ≤ (ji8)
      ·rw [if_pos c9] at H
       have c9b0 : decide (0 ≤ (ji8)) = true := decide_eq_true c9
       clear c9
       by_cases c10 : (ji8) < (a0.size : Int)
       ·rw [if_pos c10] at H
        have c10b0 : decide ((ji8) < (a0.size : Int)) = true := decide_eq_true c10
        clear c10
        by_cases c12 : x7_1 < (a1.size : Int)
        ·rw [if_pos c12] at H
         have c12b0 : decide (x7_1 < (a1.size : Int)) = true := decide_eq_true c12
         clear c12
         obtain ⟨ji13, hji13⟩ : ∃ j_ : Int, (wrap64 ((wrap64 ((a1.size : Int) - 1)) - x7_1)) = j_ := ⟨_, rfl⟩
         replace H : (if 0 ≤ (ji13) then (if (ji13) < (a1.size : Int) then (if (wrap64 ((wrap64 ((((bt a0 (ji8)) - 48) % 256) - x6_1)) - (((bt a1 (ji13)) - 48) % 256))) < 0 then (if (ji8) < (x5_1.length : Int) then (targumref4_less.l0 k1 a0 a1 (x5_1.set ((ji8) : Int).toNat ((wrap64 (48 + (wrap64 ((wrap64 ((wrap64 ((((bt a0 (ji8)) - 48) % 256) - x6_1)) - (((bt a1 (ji13)) - 48) % 256))) + 10)))) % 256)) 1 (wrap64 (x7_1 + 1))) else (none)) else (if (ji8) < (x5_1.length : Int) then (targumref4_less.l0 k1 a0 a1 (x5_1.set ((ji8) : Int).toNat ((wrap64 (48 + (wrap64 ((wrap64 ((((bt a0 (ji8)) - 48) % 256) - x6_1)) - (((bt a1 (ji13)) - 48) % 256))))) % 256)) 0 (wrap64 (x7_1 + 1))) else (none))) else (none)) else (none)) = some r := by first | (rw [hji13] at H; exact H) | (simp only [hji13] at H ⊢; exact H)
         have hji13w : (IntKind.i64.wrap ((wrap64 ((a1.size : Int) - 1)) - x7_1)) = ji13 := (i64_w _).trans hji13
         by_cases c14 : 0 ≤ (ji13)
         ·rw [if_pos c14] at H
          have c14b0 : decide (0 ≤ (ji13)) = true := decide_eq_true c14
          clear c14
          by_cases c15 : (ji13) < (a1.size : Int)
          ·rw [if_pos c15] at H
           have c15b0 : decide ((ji13) < (a1.size : Int)) = true := decide_eq_true c15
           clear c15
           by_cases c17 : (wrap64 ((wrap64 ((((bt a0 (ji8)) - 48) % 256) - x6_1)) - (((bt a1 (ji13)) - 48) % 256))) < 0
           ·rw [if_pos c17] at H
            have c17b0 : decide ((wrap64 ((wrap64 ((((bt a0 (ji8)) - 48) % 256) - x6_1)) - (((bt a1 (ji13)) - 48) % 256))) < 0) = true := decide_eq_true c17
            clear c17
            by_cases c18 : (ji8) < (x5_1.length : Int)
            ·rw [if_pos c18] at H
             have c18b0 : decide ((ji8) < (x5_1.length : Int)) = true := decide_eq_true c18
             clear c18
             obtain ⟨y252, hy252⟩ : ∃ y_ : List Int, y_ = (x5_1.set ((ji8) : Int).toNat ((wrap64 (48 + (wrap64 ((wrap64 ((wrap64 ((((bt a0 (ji8)) - 48) % 256) - x6_1)) - (((bt a1 (ji13)) - 48) % 256))) + 10)))) % 256)) := ⟨_, rfl⟩
             replace H : (targumref4_less.l0 k1 a0 a1 y252 1 (wrap64 (x7_1 + 1))) = some r := by first | (rw [hy252]; with_reducible exact H) | (have H2_ := (Option.bind_some _ _).symm.trans H; rw [hy252]; with_reducible exact H2_) | (have H2_ := (Option.bind_some _ _).symm.trans H; with_reducible exact H2_) | with_reducible exact H | (rw [hy252]; exact H) | exact H
             have Ny252 := Aside0.mk hy252
             clear hy252
             have H' := Aside0.mk H
             clear H
             have p11 : 0 ≤ ((ji8) : Int) := of_decide_eq_true (by first | (with_reducible assumption) | assumption)
             have q11 : (ji8) < (a0.size : Int) := of_decide_eq_true (by first | (with_reducible assumption) | assumption)
             have hx11 := bt_at a0 (ji8)
             replace p11 := eq_true p11
             replace q11 := eq_true q11
             have p16 : 0 ≤ ((ji13) : Int) := of_decide_eq_true (by first | (with_reducible assumption) | assumption)
             have q16 : (ji13) < (a1.size : Int) := of_decide_eq_true (by first | (with_reducible assumption) | assumption)
             have hx16 := bt_at a1 (ji13)
             replace p16 := eq_true p16
             replace q16 := eq_true q16
             have p19 : 0 ≤ ((ji8) : Int) := of_decide_eq_true (by first | (with_reducible assumption) | assumption)
             have q19 : ((ji8) : Int) < ((x5_1.length : Int) : Int) := of_decide_eq_true (by first | (with_reducible assumption) | assumption)
             obtain ⟨go19, co19, eo19, gb19, gl19, cl19, HG19⟩ := Kd.R_form HO_5.out (by omega)
             (first | cases eo19 | (injection eo19 with ea_ en_ ec_; (first | subst ea_ | (injection ea_ with ea_; subst ea_)); subst ec_; clear en_))
             have GB19 := Aside0.mk gb19
             have GG19 := Aside0.mk HG19
             clear gb19 gl19 HG19
             obtain ⟨hx19_0, hf19_0⟩ := Kd.R_celln 0 HO_5.out ((ji8) : Int) p19 q19
             replace p19 := eq_true p19
             replace q19 := eq_true q19
             have HP20 := Kd.R_putg HO_5.out ((ji8) : Int) ((wrap64 (48 + (wrap64 ((wrap64 ((wrap64 ((((bt a0 (ji8)) - 48) % 256) - x6_1)) - (((bt a1 (ji13)) - 48) % 256))) + 10)))) % 256)
             go_wp2_with (first | ((with_reducible refine gate_store (t := 5) (p := 57) rfl ?_); refine store_event (t := 5) (p := 57) (v := ?vo_w21) (w1 := (wr.setCell ⟨go19, ((ji8) : Int).toNat, none⟩ (.int .u8 ((wrap64 (48 + (wrap64 ((wrap64 ((wrap64 ((((bt a0 (ji8)) - 48) % 256) - x6_1)) - (((bt a1 (ji13)) - 48) % 256))) + 10)))) % 256)))) ?hg ?ho ?hn ?hr ?_; (case ho => rfl); (case hg => rfl); (case hn => rfl); (case hr => first | (go_simp; done) | (go_simp; rfl)); intro w21 hw; have hg : wr.grownBy w21 (some go19) := (by rw [hw]; exact HP20.2); have hp_ : Kd.R (Kd.int .u8) 5 w21 w.heap.size (fun _ => True) (.slice (some ⟨go19, 0, none⟩) x5_1.length co19) y252 := (by rw [hw, Ny252.out]; exact HP20.1); clear HP20; have n0_ := Aside0.mk (hp_); have n1_ := Aside0.mk ((by rw [hw]; exact below_set (HB.out) GB19.out : Below w.heap.size w w21)); clear HO_5; clear HB; have HO_5 := n0_; have HB := n1_; clear n0_ n1_; clear hg hw hp_))
             go_roundg k1
             case measure => have := HK1.out; omega
             case rel => exact ⟨(y252), (1), (wrap64 (x7_1 + 1)), (by first | rfl | (simp; done) | (simp [*]; done) | (simp [wrap64]; done)), (by first | rfl | (simp; done) | (simp [*]; done) | (simp [wrap64]; done)), H', ⟨by have := HK1.out; omega⟩, ⟨by (with_reducible repeat (first | apply Kd.R_alloc | apply Kd.R_drewN | apply Kd.R_drew)); exact HO_5.out⟩, ⟨bl⟩⟩
            ·rw [if_neg c18] at H
             exact absurd H (by simp)
           ·rw [if_neg c17] at H
            have c17b0 : decide ((wrap64 ((wrap64 ((((bt a0 (ji8)) - 48) % 256) - x6_1)) - (((bt a1 (ji13)) - 48) % 256))) < 0) = false := decide_eq_false c17
            clear c17
            by_cases c22 : (ji8) < (x5_1.length : Int)
            ·rw [if_pos c22] at H
             have c22b0 : decide ((ji8) < (x5_1.length : Int)) = true := decide_eq_true c22
             clear c22
             obtain ⟨y253, hy253⟩ : ∃ y_ : List Int, y_ = (x5_1.set ((ji8) : Int).toNat ((wrap64 (48 + (wrap64 ((wrap64 ((((bt a0 (ji8)) - 48) % 256) - x6_1)) - (((bt a1 (ji13)) - 48) % 256))))) % 256)) := ⟨_, rfl⟩
             replace H : (targumref4_less.l0 k1 a0 a1 y253 0 (wrap64 (x7_1 + 1))) = some r := by first | (rw [hy253]; with_reducible exact H) | (have H2_ := (Option.bind_some _ _).symm.trans H; rw [hy253]; with_reducible exact H2_) | (have H2_ := (Option.bind_some _ _).symm.trans H; with_reducible exact H2_) | with_reducible exact H | (rw [hy253]; exact H) | exact H
             have Ny253 := Aside0.mk hy253
             clear hy253
             have H' := Aside0.mk H
             clear H
             have p11 : 0 ≤ ((ji8) : Int) := of_decide_eq_true (by first | (with_reducible assumption) | assumption)
             have q11 : (ji8) < (a0.size : Int) := of_decide_eq_true (by first | (with_reducible assumption) | assumption)
             have hx11 := bt_at a0 (ji8)
             replace p11 := eq_true p11
             replace q11 := eq_true q11
             have p16 : 0 ≤ ((ji13) : Int) := of_decide_eq_true (by first | (with_reducible assumption) | assumption)
             have q16 : (ji13) < (a1.size : Int) := of_decide_eq_true (by first | (with_reducible assumption) | assumption)
             have hx16 := bt_at a1 (ji13)
             replace p16 := eq_true p16
             replace q16 := eq_true q16
             have p23 : 0 ≤ ((ji8) : Int) := of_decide_eq_true (by first | (with_reducible assumption) | assumption)
             have q23 : ((ji8) : Int) < ((x5_1.length : Int) : Int) := of_decide_eq_true (by first | (with_reducible assumption) | assumption)
             obtain ⟨go23, co23, eo23, gb23, gl23, cl23, HG23⟩ := Kd.R_form HO_5.out (by omega)
             (first | cases eo23 | (injection eo23 with ea_ en_ ec_; (first | subst ea_ | (injection ea_ with ea_; subst ea_)); subst ec_; clear en_))
             have GB23 := Aside0.mk gb23
             have GG23 := Aside0.mk HG23
             clear gb23 gl23 HG23
             obtain ⟨hx23_0, hf23_0⟩ := Kd.R_celln 0 HO_5.out ((ji8) : Int) p23 q23
             replace p23 := eq_true p23
             replace q23 := eq_true q23
             have HP24 := Kd.R_putg HO_5.out ((ji8) : Int) ((wrap64 (48 + (wrap64 ((wrap64 ((((bt a0 (ji8)) - 48) % 256) - x6_1)) - (((bt a1 (ji13)) - 48) % 256))))) % 256)
             go_wp2_with (first | ((with_reducible refine gate_store (t := 5) (p := 57) rfl ?_); refine store_event (t := 5) (p := 57) (v := ?vo_w25) (w1 := (wr.setCell ⟨go23, ((ji8) : Int).toNat, none⟩ (.int .u8 ((wrap64 (48 + (wrap64 ((wrap64 ((((bt a0 (ji8)) - 48) % 256) - x6_1)) - (((bt a1 (ji13)) - 48) % 256))))) % 256)))) ?hg ?ho ?hn ?hr ?_; (case ho => rfl); (case hg => rfl); (case hn => rfl); (case hr => first | (go_simp; done) | (go_simp; rfl)); intro w25 hw; have hg : wr.grownBy w25 (some go23) := (by rw [hw]; exact HP24.2); have hp_ : Kd.R (Kd.int .u8) 5 w25 w.heap.size (fun _ => True) (.slice (some ⟨go23, 0, none⟩) x5_1.length co23) y253 := (by rw [hw, Ny253.out]; exact HP24.1); clear HP24; have n0_ := Aside0.mk (hp_); have n1_ := Aside0.mk ((by rw [hw]; exact below_set (HB.out) GB23.out : Below w.heap.size w w25)); clear HO_5; clear HB; have HO_5 := n0_; have HB := n1_; clear n0_ n1_; clear hg hw hp_))
             go_roundg k1
             case measure => have := HK1.out; omega
             case rel => exact ⟨(y253), (0), (wrap64 (x7_1 + 1)), (by first | rfl | (simp; done) | (simp [*]; done) | (simp [wrap64]; done)), (by first | rfl | (simp; done) | (simp [*]; done) | (simp [wrap64]; done)), H', ⟨by have := HK1.out; omega⟩, ⟨by (with_reducible repeat (first | apply Kd.R_alloc | apply Kd.R_drewN | apply Kd.R_drew)); exact HO_5.out⟩, ⟨bl⟩⟩
            ·rw [if_neg c22] at H
             exact absurd H (by simp)
          ·rw [if_neg c15] at H
           exact absurd H (by simp)
         ·rw [if_neg c14] at H
          exact absurd H (by simp)
        ·rw [if_neg c12] at H
         have c12b0 : decide (x7_1 < (a1.size : Int)) = false := decide_eq_false c12
         clear c12
         by_cases c26 : (wrap64 ((((bt a0 (ji8)) - 48) % 256) - x6_1)) < 0
         ·rw [if_pos c26] at H
          have c26b0 : decide ((wrap64 ((((bt a0 (ji8)) - 48) % 256) - x6_1)) < 0) = true := decide_eq_true c26
          clear c26
          by_cases c27 : (ji8) < (x5_1.length : Int)
          ·rw [if_pos c27] at H
           have c27b0 : decide ((ji8) < (x5_1.length : Int)) = true := decide_eq_true c27
           clear c27
           obtain ⟨y254, hy254⟩ : ∃ y_ : List Int, y_ = (x5_1.set ((ji8) : Int).toNat ((wrap64 (48 + (wrap64 ((wrap64 ((((bt a0 (ji8)) - 48) % 256) - x6_1)) + 10)))) % 256)) := ⟨_, rfl⟩
           replace H : (targumref4_less.l0 k1 a0 a1 y254 1 (wrap64 (x7_1 + 1))) = some r := by first | (rw [hy254]; with_reducible exact H) | (have H2_ := (Option.bind_some _ _).symm.trans H; rw [hy254]; with_reducible exact H2_) | (have H2_ := (Option.bind_some _ _).symm.trans H; with_reducible exact H2_) | with_reducible exact H | (rw [hy254]; exact H) | exact H
           have Ny254 := Aside0.mk hy254
           clear hy254
           have H' := Aside0.mk H
           clear H
           have p11 : 0 ≤ ((ji8) : Int) := of_decide_eq_true (by first | (with_reducible assumption) | assumption)
           have q11 : (ji8) < (a0.size : Int) := of_decide_eq_true (by first | (with_reducible assumption) | assumption)
           have hx11 := bt_at a0 (ji8)
           replace p11 := eq_true p11
           replace q11 := eq_true q11
           have p28 : 0 ≤ ((ji8) : Int) := of_decide_eq_true (by first | (with_reducible assumption) | assumption)
           have q28 : ((ji8) : Int) < ((x5_1.length : Int) : Int) := of_decide_eq_true (by first | (with_reducible assumption) | assumption)
           obtain ⟨go28, co28, eo28, gb28, gl28, cl28, HG28⟩ := Kd.R_form HO_5.out (by omega)
           (first | cases eo28 | (injection eo28 with ea_ en_ ec_; (first | subst ea_ | (injection ea_ with ea_; subst ea_)); subst ec_; clear en_))
           have GB28 := Aside0.mk gb28
           have GG28 := Aside0.mk HG28
           clear gb28 gl28 HG28
           obtain ⟨hx28_0, hf28_0⟩ := Kd.R_celln 0 HO_5.out ((ji8) : Int) p28 q28
           replace p28 := eq_true p28
           replace q28 := eq_true q28
           have HP29 := Kd.R_putg HO_5.out ((ji8) : Int) ((wrap64 (48 + (wrap64 ((wrap64 ((((bt a0 (ji8)) - 48) % 256) - x6_1)) + 10)))) % 256)
           go_wp2_with (first | ((with_reducible refine gate_store (t := 5) (p := 57) rfl ?_); refine store_event (t := 5) (p := 57) (v := ?vo_w30) (w1 := (wr.setCell ⟨go28, ((ji8) : Int).toNat, none⟩ (.int .u8 ((wrap64 (48 + (wrap64 ((wrap64 ((((bt a0 (ji8)) - 48) % 256) - x6_1)) + 10)))) % 256)))) ?hg ?ho ?hn ?hr ?_; (case ho => rfl); (case hg => rfl); (case hn => rfl); (case hr => first | (go_simp; done) | (go_simp; rfl)); intro w30 hw; have hg : wr.grownBy w30 (some go28) := (by rw [hw]; exact HP29.2); have hp_ : Kd.R (Kd.int .u8) 5 w30 w.heap.size (fun _ => True) (.slice (some ⟨go28, 0, none⟩) x5_1.length co28) y254 := (by rw [hw, Ny254.out]; exact HP29.1); clear HP29; have n0_ := Aside0.mk (hp_); have n1_ := Aside0.mk ((by rw [hw]; exact below_set (HB.out) GB28.out : Below w.heap.size w w30)); clear HO_5; clear HB; have HO_5 := n0_; have HB := n1_; clear n0_ n1_; clear hg hw hp_))
           go_roundg k1
           case measure => have := HK1.out; omega
           case rel => exact ⟨(y254), (1), (wrap64 (x7_1 + 1)), (by first | rfl | (simp; done) | (simp [*]; done) | (simp [wrap64]; done)), (by first | rfl | (simp; done) | (simp [*]; done) | (simp [wrap64]; done)), H', ⟨by have := HK1.out; omega⟩, ⟨by (with_reducible repeat (first | apply Kd.R_alloc | apply Kd.R_drewN | apply Kd.R_drew)); exact HO_5.out⟩, ⟨bl⟩⟩
          ·rw [if_neg c27] at H
           exact absurd H (by simp)
         ·rw [if_neg c26] at H
          have c26b0 : decide ((wrap64 ((((bt a0 (ji8)) - 48) % 256) - x6_1)) < 0) = false := decide_eq_false c26
          clear c26
          by_cases c31 : (ji8) < (x5_1.length : Int)
          ·rw [if_pos c31] at H
           have c31b0 : decide ((ji8) < (x5_1.length : Int)) = true := decide_eq_true c31
           clear c31
           obtain ⟨y255, hy255⟩ : ∃ y_ : List Int, y_ = (x5_1.set ((ji8) : Int).toNat ((wrap64 (48 + (wrap64 ((((bt a0 (ji8)) - 48) % 256) - x6_1)))) % 256)) := ⟨_, rfl⟩
           replace H : (targumref4_less.l0 k1 a0 a1 y255 0 (wrap64 (x7_1 + 1))) = some r := by first | (rw [hy255]; with_reducible exact H) | (have H2_ := (Option.bind_some _ _).symm.trans H; rw [hy255]; with_reducible exact H2_) | (have H2_ := (Option.bind_some _ _).symm.trans H; with_reducible exact H2_) | with_reducible exact H | (rw [hy255]; exact H) | exact H
           have Ny255 := Aside0.mk hy255
           clear hy255
           have H' := Aside0.mk H
           clear H
           have p11 : 0 ≤ ((ji8) : Int) := of_decide_eq_true (by first | (with_reducible assumption) | assumption)
           have q11 : (ji8) < (a0.size : Int) := of_decide_eq_true (by first | (with_reducible assumption) | assumption)
           have hx11 := bt_at a0 (ji8)
           replace p11 := eq_true p11
           replace q11 := eq_true q11
           have p32 : 0 ≤ ((ji8) : Int) := of_decide_eq_true (by first | (with_reducible assumption) | assumption)
           have q32 : ((ji8) : Int) < ((x5_1.length : Int) : Int) := of_decide_eq_true (by first | (with_reducible assumption) | assumption)
           obtain ⟨go32, co32, eo32, gb32, gl32, cl32, HG32⟩ := Kd.R_form HO_5.out (by omega)
           (first | cases eo32 | (injection eo32 with ea_ en_ ec_; (first | subst ea_ | (injection ea_ with ea_; subst ea_)); subst ec_; clear en_))
           have GB32 := Aside0.mk gb32
           have GG32 := Aside0.mk HG32
           clear gb32 gl32 HG32
           obtain ⟨hx32_0, hf32_0⟩ := Kd.R_celln 0 HO_5.out ((ji8) : Int) p32 q32
           replace p32 := eq_true p32
           replace q32 := eq_true q32
           have HP33 := Kd.R_putg HO_5.out ((ji8) : Int) ((wrap64 (48 + (wrap64 ((((bt a0 (ji8)) - 48) % 256) - x6_1)))) % 256)
           go_wp2_with (first | ((with_reducible refine gate_store (t := 5) (p := 57) rfl ?_); refine store_event (t := 5) (p := 57) (v := ?vo_w34) (w1 := (wr.setCell ⟨go32, ((ji8) : Int).toNat, none⟩ (.int .u8 ((wrap64 (48 + (wrap64 ((((bt a0 (ji8)) - 48) % 256) - x6_1)))) % 256)))) ?hg ?ho ?hn ?hr ?_; (case ho => rfl); (case hg => rfl); (case hn => rfl); (case hr => first | (go_simp; done) | (go_simp; rfl)); intro w34 hw; have hg : wr.grownBy w34 (some go32) := (by rw [hw]; exact HP33.2); have hp_ : Kd.R (Kd.int .u8) 5 w34 w.heap.size (fun _ => True) (.slice (some ⟨go32, 0, none⟩) x5_1.length co32) y255 := (by rw [hw, Ny255.out]; exact HP33.1); clear HP33; have n0_ := Aside0.mk (hp_); have n1_ := Aside0.mk ((by rw [hw]; exact below_set (HB.out) GB32.out : Below w.heap.size w w34)); clear HO_5; clear HB; have HO_5 := n0_; have HB := n1_; clear n0_ n1_; clear hg hw hp_))
           go_roundg k1
           case measure => have := HK1.out; omega
           case rel => exact ⟨(y255), (0), (wrap64 (x7_1 + 1)), (by first | rfl | (simp; done) | (simp [*]; done) | (simp [wrap64]; done)), (by first | rfl | (simp; done) | (simp [*]; done) | (simp [wrap64]; done)), H', ⟨by have := HK1.out; omega⟩, ⟨by (with_reducible repeat (first | apply Kd.R_alloc | apply Kd.R_drewN | apply Kd.R_drew)); exact HO_5.out⟩, ⟨bl⟩⟩
          ·rw [if_neg c31] at H
           exact absurd H (by simp)
       ·rw [if_neg c10] at H
        exact absurd H (by simp)
      ·rw [if_neg c9] at H
       exact absurd H (by simp)
     ·rw [if_neg c7] at H
      have c7b0 : decide (x7_1 < (a0.size : Int)) = false := decide_eq_false c7
      clear c7
      replace H := Option.bind_eq_some_iff.mp H
      obtain ⟨t251, A350, H⟩ := H
      replace H : (some t251) = some r := H
      have A35 := Aside0.mk A350
      clear A350
      obtain rfl := Option.some.inj H
      have hcv36 := own_string (P := Tryd.prog) Tryd.underlying22 Tryd.underlying5 Tryd.underlying9 (Kd.own_of_R HO_5.out)
      go_wp2_with (first | ((with_reducible refine gate_callee (f := 18) rfl ?_); refine goesL_ (some 60) rfl rfl Tryd.func18 (by kernel_rfl) rfl #[.bool false, .string (strOfNums x5_1)] rfl (by (try simp only [List.map_toArray, List.map_cons, List.map_nil]); first | done | rfl | (simp only [List.length_drop, List.length_take]; rfl)) ?_; (with_reducible refine (targumref4_Norm.calls k1 false (strOfNums x5_1) t251 _ A35.out).mono ?_); rintro e w' ⟨rfl, ⟨nd, rfl⟩⟩; refine ⟨_, rfl, ?_⟩))
      go_ret
      exact ⟨by first | rfl | (simp [errW_none, errW_some] <;> rfl) | (simp [*, errW_none, errW_some] <;> rfl), bl⟩
  ·rw [if_neg c4] at H
   exact absurd H (by simp)
 ·rw [if_neg c3] at H
  exact absurd H (by simp)

end Go.Proofs.YtbjlcipamdgnjaaDoor.PN
