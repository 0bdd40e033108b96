/- Written by this session's own program (xprint, made over the kit's print): Lean functions with the same answers as the Go functions, and the proofs of that. Not trusted: Lean checks it. -/
import Derived.Test.YtkijneohhilboaaGreatDoorPTx0
import Derived.Test.YtkijneohhilboaaGreatDoorPTx2
import Derived.Test.YtkijneohhilboaaGreatDoorXW
import Derived.Test.YtkijneohhilboaaGreatDoorXZ
namespace Go.Proofs.YtkijneohhilboaaGreatDoor.PT
open Go.Proofs.YtkijneohhilboaaGreatDoor.XZ
open Go.Proofs.YtkijneohhilboaaGreatDoor.XW Go.RowKit Go.Proofs.YtkijneohhilboaaGreatDoorW.PrintWords Go.Proofs.YtkijneohhilboaaGreatDoorW.PrintLast Go.Proofs.YtkijneohhilboaaGreatDoorW.PrintMore
attribute [local go_sem] max2_int min2_int max_two min_two max_three min_three max_four min_four   -- for this text's walks alone
set_option linter.unusedVariables false
set_option linter.unusedSimpArgs false

/-! ### big_digits: function 58 -/
def big_digits.l0 : Nat → ByteArray → Int → Int → Option (Bool)
 | 0, _, _, _ => none
 | k + 1, x0, x5, x6 => if x6 < x5 then (if 0 ≤ x6 then (if x6 < (x0.size : Int) then (if (bt x0 x6) < 48 then (some false) else (if (bt x0 x6) > 57 then (some false) else (big_digits.l0 k x0 x5 (wrap64 (x6 + 1))))) else (none)) else (none)) else (some (x0.toList != ([] : List UInt8)))
def big_digits.f (k : Nat) (a0 : ByteArray) : Option (Bool) := big_digits.l0 k a0 (a0.size : Int) 0
theorem big_digits.mono_l : ∀ k, (∀ y0 y1 y2, LeO (big_digits.l0 k y0 y1 y2) (big_digits.l0 (k + 1) y0 y1 y2))
 | 0 => fun _ _ _ r h => by simp [big_digits.l0] at h
 | k + 1 => by
  have ih0 := big_digits.mono_l k
  ·intro y0 y1 y2
   unfold big_digits.l0
   repeat' first | (with_reducible exact ih0 _ _ _) | (with_reducible exact LeO.refl _) | (with_reducible exact LeO.none _) | (with_reducible refine LeO.ite ?_ ?_) | (with_reducible refine LeO.bind ?_ (fun _ => ?_)) | exact ih0 _ _ _ | exact LeO.none _ | refine LeO.ite ?_ ?_ | refine LeO.bind ?_ (fun _ => ?_)
theorem big_digits.mono : ∀ a0 k, LeO (big_digits.f k a0) (big_digits.f (k + 1) a0) := by
 intro a0 k
 have ih0 := big_digits.mono_l k
 unfold big_digits.f
 repeat' first | (with_reducible exact ih0 _ _ _) | (with_reducible exact LeO.refl _) | (with_reducible exact LeO.none _) | (with_reducible refine LeO.ite ?_ ?_) | (with_reducible refine LeO.bind ?_ (fun _ => ?_)) | exact ih0 _ _ _ | exact LeO.none _ | refine LeO.ite ?_ ?_ | refine LeO.bind ?_ (fun _ => ?_)
set_option maxHeartbeats 8000000 in
set_option maxRecDepth 100000 in
theorem big_digits.calls (k : Nat) (a0 : ByteArray) (r : Bool) (w : World) (h : big_digits.f k a0 = some r) :
  Calls Tryz.prog 58 #[.string a0] w fun e w' => e = .returned (.bool r) ∧ Drawn0 w w' := by
 have H : (big_digits.l0 k a0 (a0.size : Int) 0) = some r := h
 clear h
 have H' := AM H
 clear H
 go_enter Tryz.func58, Tryz.ntmps58
 go_wp2
 go_loopg [6] k (fun kq v6 w' => ∃ (x6_1 : Int), v6 = .int .i64 x6_1 ∧ Aside0 (big_digits.l0 kq a0 (a0.size : Int) x6_1 = some r) ∧ Aside0 (kq ≤ k) ∧ Drawn0 w w')
 case atStart => exact ⟨(0), rq, H', ⟨Nat.le_refl _⟩, by repeat (first | exact Drawn0.refl _ | apply Drawn0.step)⟩
 case round =>
  clear H'
  obtain ⟨x6_1, rfl, HA, HK1, ⟨m1, rfl⟩⟩ := hrel
  cases gk with
  | zero => exact absurd HA.out (by simp [big_digits.l0])
  | succ k1 =>
   have H := HA.out
   clear HA
   simp only [big_digits.l0] at H
   by_cases c2 : x6_1 < (a0.size : Int)
   ·rw [if_pos c2] at H
    have c2b0 : decide (x6_1 < (a0.size : Int)) = true := decide_eq_true c2
    clear c2
    by_cases c3 : 0 ≤ x6_1
    ·rw [if_pos c3] at H
     have c3b0 : decide (0 ≤ x6_1) = true := decide_eq_true c3
     clear c3
     by_cases c4 : x6_1 < (a0.size : Int)
     ·rw [if_pos c4] at H
      have c4b0 : decide (x6_1 < (a0.size : Int)) = true := decide_eq_true c4
      clear c4
      by_cases c6 : (bt a0 x6_1) < 48
      ·rw [if_pos c6] at H
       have c6b0 : decide ((bt a0 x6_1) < 48) = true := decide_eq_true c6
       clear c6
       obtain rfl := Option.some.inj H
       have p5 : 0 ≤ (x6_1 : Int) := od
       have q5 : x6_1 < (a0.size : Int) := od
       have hx5 := bt_at a0 x6_1
       replace p5 := eq_true p5
       replace q5 := eq_true q5
       go_wp2
       go_ret
       exact ⟨by first | rfl | (simp; done) | (simp [*]; done) | (simp [wrap64]; done) | (simp; (generalize ByteArray.toList _ = z_); cases z_ <;> first | rfl | simp), by repeat (first | exact Drawn0.refl _ | apply Drawn0.step)⟩
      ·rw [if_neg c6] at H
       have c6b0 : decide ((bt a0 x6_1) < 48) = false := decide_eq_false c6
       clear c6
       by_cases c8 : (bt a0 x6_1) > 57
       ·rw [if_pos c8] at H
        have c8b0 : decide (57 < (bt a0 x6_1)) = true := decide_eq_true c8
        clear c8
        obtain rfl := Option.some.inj H
        have p5 : 0 ≤ (x6_1 : Int) := od
        have q5 : x6_1 < (a0.size : Int) := od
        have hx5 := bt_at a0 x6_1
        replace p5 := eq_true p5
        replace q5 := eq_true q5
        have p7 : 0 ≤ (x6_1 : Int) := od
        have q7 : x6_1 < (a0.size : Int) := od
        have hx7 := bt_at a0 x6_1
        replace p7 := eq_true p7
        replace q7 := eq_true q7
        go_wp2
        go_ret
        exact ⟨by first | rfl | (simp; done) | (simp [*]; done) | (simp [wrap64]; done) | (simp; (generalize ByteArray.toList _ = z_); cases z_ <;> first | rfl | simp), by repeat (first | exact Drawn0.refl _ | apply Drawn0.step)⟩
       ·rw [if_neg c8] at H
        have c8b0 : decide (57 < (bt a0 x6_1)) = false := decide_eq_false c8
        clear c8
        have H' := AM H
        clear H
        have p5 : 0 ≤ (x6_1 : Int) := od
        have q5 : x6_1 < (a0.size : Int) := od
        have hx5 := bt_at a0 x6_1
        replace p5 := eq_true p5
        replace q5 := eq_true q5
        have p7 : 0 ≤ (x6_1 : Int) := od
        have q7 : x6_1 < (a0.size : Int) := od
        have hx7 := bt_at a0 x6_1
        replace p7 := eq_true p7
        replace q7 := eq_true q7
        go_wp2
        go_roundg k1
        case measure => have := HK1.out; omega
        case rel => exact ⟨(wrap64 (x6_1 + 1)), rq, H', ⟨by have := HK1.out; omega⟩, by repeat (first | exact Drawn0.refl _ | apply Drawn0.step)⟩
     ·rw [if_neg c4] at H
      exact absurd H (by simp)
    ·rw [if_neg c3] at H
     exact absurd H (by simp)
   ·rw [if_neg c2] at H
    have c2b0 : decide (x6_1 < (a0.size : Int)) = false := decide_eq_false c2
    clear c2
    obtain rfl := Option.some.inj H
    go_wp2
    go_ret
    exact ⟨by first | rfl | (simp; done) | (simp [*]; done) | (simp [wrap64]; done) | (simp; (generalize ByteArray.toList _ = z_); cases z_ <;> first | rfl | simp), by repeat (first | exact Drawn0.refl _ | apply Drawn0.step)⟩

/-! ### stringslite_Clone: function 76 -/

def stringslite_Clone.f (a0 : ByteArray) : Option (ByteArray) := if a0.size ≤ 281474976710656 then some a0 else none
theorem stringslite_Clone.calls (a0 : ByteArray) (r : ByteArray) (w : World) (h : stringslite_Clone.f a0 = some r) :
  Calls Tryz.prog 76 #[.string a0] w fun e w' => e = .returned (.string r) ∧ Below w.heap.size w w' := by
 unfold stringslite_Clone.f at h
 split at h
 ·rename_i hc
  obtain rfl := Option.some.inj h
  exact Tryz.stringslite_Clone a0 w hc
 ·cases h

/-! ### strings_Clone: function 59 -/
def strings_Clone.f (a0 : ByteArray) : Option (ByteArray) := (stringslite_Clone.f a0).bind fun t104 => (some t104)
set_option maxHeartbeats 8000000 in
set_option maxRecDepth 100000 in
theorem strings_Clone.calls (a0 : ByteArray) (r : ByteArray) (w : World) (h : strings_Clone.f a0 = some r) :
  Calls Tryz.prog 59 #[.string a0] w fun e w' => e = .returned (.string r) ∧ Below w.heap.size w w' := by
 have HB := AM (Below.refl w.heap.size w)
 have H : ((stringslite_Clone.f a0).bind fun t104 => (some t104)) = some r := h
 clear h
 replace H := Option.bind_eq_some_iff.mp H
 obtain ⟨t104, A20, H⟩ := H
 replace H : (some t104) = some r := H
 have A2 := AM A20
 clear A20
 obtain rfl := Option.some.inj H
 go_enter Tryz.func59, Tryz.ntmps59
 go_wp2_with (first | ((with_reducible refine gate_callee (f := 76) rfl ?_); refine goesL_ (some 4) rfl rfl Tryz.func76 (by kernel_rfl) rfl #[.string a0] rfl am ?_; (with_reducible refine (stringslite_Clone.calls a0 t104 _ A2.out).mono ?_); rintro e w3 ⟨rfl, hb⟩; refine ⟨_, rfl, ?_⟩; replace HB := AM (below_step bl hb); (try clear hb)))
 go_ret
 exact ⟨by first | rfl | (simp [errW_none, errW_some] <;> rfl) | (simp [*, errW_none, errW_some] <;> rfl) | ((generalize ByteArray.toList _ = z_); cases z_ <;> first | rfl | (simp; done)), bl⟩

/-! ### big_Norm: function 36 -/
def big_Norm.f (k : Nat) (a0 : Bool) (a1 : ByteArray) : Option (ByteArray) := (big_digits.f k a1).bind fun t105 => (if t105 = true then ((strings_TrimLeft.f a1 (⟨#[48]⟩ : ByteArray)).bind fun t106 => (if t106.toList = ([] : List UInt8) then (some (⟨#[48]⟩ : ByteArray)) else (if a0 = true then (if 1 + t106.size ≤ 9223372036854775807 then (some ((⟨#[45]⟩ : ByteArray) ++ t106)) else (none)) else ((strings_Clone.f t106).bind fun t107 => (some t107))))) else (some (⟨#[]⟩ : ByteArray)))
theorem big_Norm.mono : ∀ a0 a1 k, LeO (big_Norm.f k a0 a1) (big_Norm.f (k + 1) a0 a1) := by
 intro a0 a1 k
 unfold big_Norm.f
 repeat' first | (with_reducible exact big_digits.mono _ _) | (with_reducible exact LeO.refl _) | (with_reducible exact LeO.none _) | (with_reducible refine LeO.ite ?_ ?_) | (with_reducible refine LeO.bind ?_ (fun _ => ?_)) | exact big_digits.mono _ _ | exact LeO.none _ | refine LeO.ite ?_ ?_ | refine LeO.bind ?_ (fun _ => ?_)
set_option maxHeartbeats 8000000 in
set_option maxRecDepth 100000 in
theorem big_Norm.calls (k : Nat) (a0 : Bool) (a1 : ByteArray) (r : ByteArray) (w : World) (h : big_Norm.f k a0 a1 = some r) :
  Calls Tryz.prog 36 #[.bool a0, .string a1] w fun e w' => e = .returned (.string r) ∧ Below w.heap.size w w' := by
 have HB := AM (Below.refl w.heap.size w)
 have H : ((big_digits.f k a1).bind fun t105 => (if t105 = true then ((strings_TrimLeft.f a1 (⟨#[48]⟩ : ByteArray)).bind fun t106 => (if t106.toList = ([] : List UInt8) then (some (⟨#[48]⟩ : ByteArray)) else (if a0 = true then (if 1 + t106.size ≤ 9223372036854775807 then (some ((⟨#[45]⟩ : ByteArray) ++ t106)) else (none)) else ((strings_Clone.f t106).bind fun t107 => (some t107))))) else (some (⟨#[]⟩ : ByteArray)))) = some r := h
 clear h
 replace H := Option.bind_eq_some_iff.mp H
 obtain ⟨t105, A30, H⟩ := H
 replace H : (if t105 = true then ((strings_TrimLeft.f a1 (⟨#[48]⟩ : ByteArray)).bind fun t106 => (if t106.toList = ([] : List UInt8) then (some (⟨#[48]⟩ : ByteArray)) else (if a0 = true then (if 1 + t106.size ≤ 9223372036854775807 then (some ((⟨#[45]⟩ : ByteArray) ++ t106)) else (none)) else ((strings_Clone.f t106).bind fun t107 => (some t107))))) else (some (⟨#[]⟩ : ByteArray))) = some r := H
 have A3 := AM A30
 clear A30
 by_cases c4 : t105 = true
 ·subst c4
  have H1 : ((strings_TrimLeft.f a1 (⟨#[48]⟩ : ByteArray)).bind fun t106 => (if t106.toList = ([] : List UInt8) then (some (⟨#[48]⟩ : ByteArray)) else (if a0 = true then (if 1 + t106.size ≤ 9223372036854775807 then (some ((⟨#[45]⟩ : ByteArray) ++ t106)) else (none)) else ((strings_Clone.f t106).bind fun t107 => (some t107))))) = some r := by rw [if_pos rfl] at H; exact H
  clear H
  have H := H1
  clear H1
  replace H := Option.bind_eq_some_iff.mp H
  obtain ⟨t106, A50, H⟩ := H
  replace H : (if t106.toList = ([] : List UInt8) then (some (⟨#[48]⟩ : ByteArray)) else (if a0 = true then (if 1 + t106.size ≤ 9223372036854775807 then (some ((⟨#[45]⟩ : ByteArray) ++ t106)) else (none)) else ((strings_Clone.f t106).bind fun t107 => (some t107)))) = some r := H
  have A5 := AM A50
  clear A50
  by_cases c6 : t106.toList = ([] : List UInt8)
  ·rw [if_pos c6] at H
   have c6b0 : (t106.toList == ([] : List UInt8)) = true := beq_iff_eq.mpr c6
   have c6b1 : (t106.toList != ([] : List UInt8)) = false := bne_eq_false_iff_eq.mpr c6
   clear c6
   obtain rfl := Option.some.inj H
   go_enter Tryz.func36, Tryz.ntmps36
   go_wp2_with (first | ((with_reducible refine gate_callee (f := 58) rfl ?_); refine goesL_ (some 6) rfl rfl Tryz.func58 (by kernel_rfl) rfl #[.string a1] rfl am ?_; (with_reducible refine (big_digits.calls k a1 true _ A3.out).mono ?_); rintro e w' ⟨rfl, ⟨nd, rfl⟩⟩; refine ⟨_, rfl, ?_⟩) | ((with_reducible refine gate_callee (f := 42) rfl ?_); refine goesL_ (some 9) rfl rfl Tryz.func42 (by kernel_rfl) rfl #[.string a1, .string (⟨#[48]⟩ : ByteArray)] rfl am ?_; (with_reducible refine (strings_TrimLeft.calls a1 (⟨#[48]⟩ : ByteArray) t106 _ A5.out).mono ?_); rintro e w7 ⟨rfl, hb⟩; refine ⟨_, rfl, ?_⟩; replace HB := AM (below_step bl hb); (try clear hb)))
   go_ret
   exact ⟨by first | rfl | (simp [errW_none, errW_some] <;> rfl) | (simp [*, errW_none, errW_some] <;> rfl) | ((generalize ByteArray.toList _ = z_); cases z_ <;> first | rfl | (simp; done)), bl⟩
  ·rw [if_neg c6] at H
   have c6b0 : (t106.toList == ([] : List UInt8)) = false := beq_eq_false_iff_ne.mpr c6
   have c6b1 : (t106.toList != ([] : List UInt8)) = true := bne_iff_ne.mpr c6
   by_cases c8 : a0 = true
   ·subst c8
    have H1 : (if 1 + t106.size ≤ 9223372036854775807 then (some ((⟨#[45]⟩ : ByteArray) ++ t106)) else (none)) = some r := by rw [if_pos rfl] at H; exact H
    clear H
    have H := H1
    clear H1
    by_cases c9 : 1 + t106.size ≤ 9223372036854775807
    ·rw [if_pos c9] at H
     have c9b0 := eq_true c9
     have c9b1 : decide (1 + t106.size ≤ 9223372036854775807) = true := decide_eq_true c9
     try have c9b2 : (9223372036854775807 < 1 + t106.size) = False := eq_false (Nat.not_lt.2 c9)
     obtain rfl := Option.some.inj H
     go_enter Tryz.func36, Tryz.ntmps36
     go_wp2_with (first | ((with_reducible refine gate_callee (f := 58) rfl ?_); refine goesL_ (some 6) rfl rfl Tryz.func58 (by kernel_rfl) rfl #[.string a1] rfl am ?_; (with_reducible refine (big_digits.calls k a1 true _ A3.out).mono ?_); rintro e w' ⟨rfl, ⟨nd, rfl⟩⟩; refine ⟨_, rfl, ?_⟩) | ((with_reducible refine gate_callee (f := 42) rfl ?_); refine goesL_ (some 9) rfl rfl Tryz.func42 (by kernel_rfl) rfl #[.string a1, .string (⟨#[48]⟩ : ByteArray)] rfl am ?_; (with_reducible refine (strings_TrimLeft.calls a1 (⟨#[48]⟩ : ByteArray) t106 _ A5.out).mono ?_); rintro e w10 ⟨rfl, hb⟩; refine ⟨_, rfl, ?_⟩; replace HB := AM (below_step bl hb); (try clear hb)))
     go_ret
     exact ⟨by first | rfl | (simp [errW_none, errW_some] <;> rfl) | (simp [*, errW_none, errW_some] <;> rfl) | ((generalize ByteArray.toList _ = z_); cases z_ <;> first | rfl | (simp; done)), bl⟩
    ·rw [if_neg c9] at H
     exact absurd H (by simp)
   ·replace c8 := Bool.eq_false_iff.mpr c8
    subst c8
    have H1 : ((strings_Clone.f t106).bind fun t107 => (some t107)) = some r := by rw [if_neg (show ¬ (false = true) by decide)] at H; exact H
    clear H
    have H := H1
    clear H1
    replace H := Option.bind_eq_some_iff.mp H
    obtain ⟨t107, A110, H⟩ := H
    replace H : (some t107) = some r := H
    have A11 := AM A110
    clear A110
    obtain rfl := Option.some.inj H
    go_enter Tryz.func36, Tryz.ntmps36
    go_wp2_with (first | ((with_reducible refine gate_callee (f := 58) rfl ?_); refine goesL_ (some 6) rfl rfl Tryz.func58 (by kernel_rfl) rfl #[.string a1] rfl am ?_; (with_reducible refine (big_digits.calls k a1 true _ A3.out).mono ?_); rintro e w' ⟨rfl, ⟨nd, rfl⟩⟩; refine ⟨_, rfl, ?_⟩) | ((with_reducible refine gate_callee (f := 42) rfl ?_); refine goesL_ (some 9) rfl rfl Tryz.func42 (by kernel_rfl) rfl #[.string a1, .string (⟨#[48]⟩ : ByteArray)] rfl am ?_; (with_reducible refine (strings_TrimLeft.calls a1 (⟨#[48]⟩ : ByteArray) t106 _ A5.out).mono ?_); rintro e w12 ⟨rfl, hb⟩; refine ⟨_, rfl, ?_⟩; replace HB := AM (below_step bl hb); (try clear hb)) | ((with_reducible refine gate_callee (f := 59) rfl ?_); refine goesL_ (some 18) rfl rfl Tryz.func59 (by kernel_rfl) rfl #[.string t106] rfl am ?_; (with_reducible refine (strings_Clone.calls t106 t107 _ A11.out).mono ?_); rintro e w13 ⟨rfl, hb⟩; refine ⟨_, rfl, ?_⟩; replace HB := AM (below_step bl hb); (try clear hb)))
    go_ret
    exact ⟨by first | rfl | (simp [errW_none, errW_some] <;> rfl) | (simp [*, errW_none, errW_some] <;> rfl) | ((generalize ByteArray.toList _ = z_); cases z_ <;> first | rfl | (simp; done)), bl⟩
 ·replace c4 := Bool.eq_false_iff.mpr c4
  subst c4
  have H1 : (some (⟨#[]⟩ : ByteArray)) = some r := by rw [if_neg (show ¬ (false = true) by decide)] at H; exact H
  clear H
  have H := H1
  clear H1
  obtain rfl := Option.some.inj H
  go_enter Tryz.func36, Tryz.ntmps36
  go_wp2_with (first | ((with_reducible refine gate_callee (f := 58) rfl ?_); refine goesL_ (some 6) rfl rfl Tryz.func58 (by kernel_rfl) rfl #[.string a1] rfl am ?_; (with_reducible refine (big_digits.calls k a1 false _ A3.out).mono ?_); rintro e w' ⟨rfl, ⟨nd, rfl⟩⟩; refine ⟨_, rfl, ?_⟩))
  go_ret
  exact ⟨by first | rfl | (simp [errW_none, errW_some] <;> rfl) | (simp [*, errW_none, errW_some] <;> rfl) | ((generalize ByteArray.toList _ = z_); cases z_ <;> first | rfl | (simp; done)), bl⟩

end Go.Proofs.YtkijneohhilboaaGreatDoor.PT
