/- Written by this session's own program (xprint, made over the kit's print): Lean functions with the same answers as the Go functions, and the proofs of that. Not trusted: Lean checks it. -/
import Derived.Test.YtkijneohhilboaaDoorPOx0
import Derived.Test.YtkijneohhilboaaDoorXW
import Derived.Test.YtkijneohhilboaaDoorXZ
namespace Go.Proofs.YtkijneohhilboaaDoor.PO
open Go.Proofs.YtkijneohhilboaaDoor.XZ
open Go.Proofs.YtkijneohhilboaaDoor.XW Go.RowKit Go.Proofs.YtkijneohhilboaaDoorW.PrintWords Go.Proofs.YtkijneohhilboaaDoorW.PrintLast Go.Proofs.YtkijneohhilboaaDoorW.PrintMore
attribute [local go_sem] max2_int min2_int max_two min_two max_three min_three max_four min_four   -- for this text's walks alone
set_option linter.unusedVariables false
set_option linter.unusedSimpArgs false

/-! ### big_digits: function 44 -/
def big_digits.l0 : Nat → ByteArray → Int → Int → Option (Bool)
 | 0, _, _, _ => none
 | k + 1, x0, x5, x6 => if x6 < x5 then (if 0 ≤ x6 then (if x6 < (x0.size : Int) then (if (bt x0 x6) < 48 then (some false) else (if (bt x0 x6) > 57 then (some false) else (big_digits.l0 k x0 x5 (wrap64 (x6 + 1))))) else (none)) else (none)) else (some (x0.toList != ([] : List UInt8)))
def big_digits.f (k : Nat) (a0 : ByteArray) : Option (Bool) := big_digits.l0 k a0 (a0.size : Int) 0
theorem big_digits.mono_l : ∀ k, (∀ y0 y1 y2, LeO (big_digits.l0 k y0 y1 y2) (big_digits.l0 (k + 1) y0 y1 y2))
 | 0 => fun _ _ _ r h => by simp [big_digits.l0] at h
 | k + 1 => by
  have ih0 := big_digits.mono_l k
  ·intro y0 y1 y2
   unfold big_digits.l0
   repeat' first | (with_reducible exact ih0 _ _ _) | (with_reducible exact LeO.refl _) | (with_reducible exact LeO.none _) | (with_reducible refine LeO.ite ?_ ?_) | (with_reducible refine LeO.bind ?_ (fun _ => ?_)) | exact ih0 _ _ _ | exact LeO.none _ | refine LeO.ite ?_ ?_ | refine LeO.bind ?_ (fun _ => ?_)
theorem big_digits.mono : ∀ a0 k, LeO (big_digits.f k a0) (big_digits.f (k + 1) a0) := by
 intro a0 k
 have ih0 := big_digits.mono_l k
 unfold big_digits.f
 repeat' first | (with_reducible exact ih0 _ _ _) | (with_reducible exact LeO.refl _) | (with_reducible exact LeO.none _) | (with_reducible refine LeO.ite ?_ ?_) | (with_reducible refine LeO.bind ?_ (fun _ => ?_)) | exact ih0 _ _ _ | exact LeO.none _ | refine LeO.ite ?_ ?_ | refine LeO.bind ?_ (fun _ => ?_)
set_option maxHeartbeats 8000000 in
set_option maxRecDepth 100000 in
theorem big_digits.calls (k : Nat) (a0 : ByteArray) (r : Bool) (w : World) (h : big_digits.f k a0 = some r) :
  Calls Tryd.prog 44 #[.string a0] w fun e w' => e = .returned (.bool r) ∧ Drawn0 w w' := by
 have H : (big_digits.l0 k a0 (a0.size : Int) 0) = some r := h
 clear h
 have H' := AM H
 clear H
 go_enter Tryd.func44, Tryd.ntmps44
 go_wp2
 go_loopg [6] k (fun kq v6 w' => ∃ (x6_1 : Int), v6 = .int .i64 x6_1 ∧ Aside0 (big_digits.l0 kq a0 (a0.size : Int) x6_1 = some r) ∧ Aside0 (kq ≤ k) ∧ Drawn0 w w')
 case atStart => exact ⟨(0), rq, H', ⟨Nat.le_refl _⟩, by repeat (first | exact Drawn0.refl _ | apply Drawn0.step)⟩
 case round =>
  clear H'
  obtain ⟨x6_1, rfl, HA, HK1, ⟨m1, rfl⟩⟩ := hrel
  cases gk with
  | zero => exact absurd HA.out (by simp [big_digits.l0])
  | succ k1 =>
   have H := HA.out
   clear HA
   simp only [big_digits.l0] at H
   by_cases c2 : x6_1 < (a0.size : Int)
   ·rw [if_pos c2] at H
    have c2b0 : decide (x6_1 < (a0.size : Int)) = true := decide_eq_true c2; clear c2; by_cases c3 : 0 ≤ x6_1
    ·rw [if_pos c3] at H
     have c3b0 : decide (0 ≤ x6_1) = true := decide_eq_true c3; clear c3; by_cases c4 : x6_1 < (a0.size : Int)
     ·rw [if_pos c4] at H
      have c4b0 : decide (x6_1 < (a0.size : Int)) = true := decide_eq_true c4; clear c4; by_cases c6 : (bt a0 x6_1) < 48
      ·rw [if_pos c6] at H
       have c6b0 : decide ((bt a0 x6_1) < 48) = true := decide_eq_true c6; clear c6; obtain rfl := Option.some.inj H; have p5 : 0 ≤ (x6_1 : Int) := od; have q5 : x6_1 < (a0.size : Int) := od; have hx5 := bt_at a0 x6_1; replace p5 := eq_true p5; replace q5 := eq_true q5; go_wp2; go_ret
       exact ⟨by first | rfl | (simp; done) | (simp [*]; done) | (simp [wrap64]; done) | (simp; (generalize ByteArray.toList _ = z_); cases z_ <;> first | rfl | simp), by repeat (first | exact Drawn0.refl _ | apply Drawn0.step)⟩
      ·rw [if_neg c6] at H
       have c6b0 : decide ((bt a0 x6_1) < 48) = false := decide_eq_false c6; clear c6; by_cases c8 : (bt a0 x6_1) > 57
       ·rw [if_pos c8] at H
        have c8b0 : decide (57 < (bt a0 x6_1)) = true := decide_eq_true c8; clear c8; obtain rfl := Option.some.inj H; have p5 : 0 ≤ (x6_1 : Int) := od; have q5 : x6_1 < (a0.size : Int) := od; have hx5 := bt_at a0 x6_1; replace p5 := eq_true p5; replace q5 := eq_true q5; have p7 : 0 ≤ (x6_1 : Int) := od; have q7 : x6_1 < (a0.size : Int) := od; have hx7 := bt_at a0 x6_1; replace p7 := eq_true p7; replace q7 := eq_true q7; go_wp2; go_ret
        exact ⟨by first | rfl | (simp; done) | (simp [*]; done) | (simp [wrap64]; done) | (simp; (generalize ByteArray.toList _ = z_); cases z_ <;> first | rfl | simp), by repeat (first | exact Drawn0.refl _ | apply Drawn0.step)⟩
       ·rw [if_neg c8] at H
        have c8b0 : decide (57 < (bt a0 x6_1)) = false := decide_eq_false c8; clear c8; have H' := AM H; clear H; have p5 : 0 ≤ (x6_1 : Int) := od; have q5 : x6_1 < (a0.size : Int) := od; have hx5 := bt_at a0 x6_1; replace p5 := eq_true p5; replace q5 := eq_true q5; have p7 : 0 ≤ (x6_1 : Int) := od; have q7 : x6_1 < (a0.size : Int) := od; have hx7 := bt_at a0 x6_1; replace p7 := eq_true p7; replace q7 := eq_true q7; go_wp2; go_roundg k1
        case measure => have := HK1.out; omega
        case rel => exact ⟨(wrap64 (x6_1 + 1)), rq, H', ⟨by have := HK1.out; omega⟩, by repeat (first | exact Drawn0.refl _ | apply Drawn0.step)⟩
     ·rw [if_neg c4] at H
      exact absurd H (by simp)
    ·rw [if_neg c3] at H
     exact absurd H (by simp)
   ·rw [if_neg c2] at H
    have c2b0 : decide (x6_1 < (a0.size : Int)) = false := decide_eq_false c2; clear c2; obtain rfl := Option.some.inj H; go_wp2; go_ret
    exact ⟨by first | rfl | (simp; done) | (simp [*]; done) | (simp [wrap64]; done) | (simp; (generalize ByteArray.toList _ = z_); cases z_ <;> first | rfl | simp), by repeat (first | exact Drawn0.refl _ | apply Drawn0.step)⟩

/-! ### strings_TrimLeft: function 45 -/

def strings_TrimLeft.f (a0 : ByteArray) (a1 : ByteArray) : Option (ByteArray) := if a1.data.toList.all (fun b => decide (b.toNat < 128)) = true ∧ a1.size < 1000 ∧ a0.size ≤ 9223372036854775807 then some ⟨(Lib.trimLeftS a0.data.toList a1.data.toList).toArray⟩ else none
theorem strings_TrimLeft.calls (a0 : ByteArray) (a1 : ByteArray) (r : ByteArray) (w : World) (h : strings_TrimLeft.f a0 a1 = some r) :
  Calls Tryd.prog 45 #[.string a0, .string a1] w fun e w' => e = .returned (.string r) ∧ Below w.heap.size w w' := by
 unfold strings_TrimLeft.f at h
 split at h
 ·rename_i hc
  obtain ⟨h1, h2, h3⟩ := hc
  obtain rfl := Option.some.inj h
  refine (Any.strings_TrimLeft_laid Tryd.lays161 (by kernel_rfl) a0 a1 w (by omega) (fun j b hb => ?_)).mono fun e w' hh => hh
  exact of_decide_eq_true (List.all_eq_true.1 h1 b (List.mem_of_getElem? hb))
 ·cases h

/-! ### stringslite_Clone: function 76 -/

def stringslite_Clone.f (a0 : ByteArray) : Option (ByteArray) := if a0.size ≤ 281474976710656 then some a0 else none
theorem stringslite_Clone.calls (a0 : ByteArray) (r : ByteArray) (w : World) (h : stringslite_Clone.f a0 = some r) :
  Calls Tryd.prog 76 #[.string a0] w fun e w' => e = .returned (.string r) ∧ Below w.heap.size w w' := by
 unfold stringslite_Clone.f at h
 split at h
 ·rename_i hc
  obtain rfl := Option.some.inj h
  exact Tryd.stringslite_Clone a0 w hc
 ·cases h

/-! ### strings_Clone: function 46 -/
def strings_Clone.f (a0 : ByteArray) : Option (ByteArray) := (stringslite_Clone.f a0).bind fun t101 => (some t101)
set_option maxHeartbeats 8000000 in
set_option maxRecDepth 100000 in
theorem strings_Clone.calls (a0 : ByteArray) (r : ByteArray) (w : World) (h : strings_Clone.f a0 = some r) :
  Calls Tryd.prog 46 #[.string a0] w fun e w' => e = .returned (.string r) ∧ Below w.heap.size w w' := by
 have HB := AM (Below.refl w.heap.size w)
 have H : ((stringslite_Clone.f a0).bind fun t101 => (some t101)) = some r := h
 clear h
 replace H := Option.bind_eq_some_iff.mp H
 obtain ⟨t101, A20, H⟩ := H
 replace H : (some t101) = some r := H
 have A2 := AM A20
 clear A20
 obtain rfl := Option.some.inj H
 go_enter Tryd.func46, Tryd.ntmps46
 go_wp2_with (first | ((with_reducible refine gate_callee (f := 76) rfl ?_); refine goesL_ (some 4) rfl rfl Tryd.func76 (by kernel_rfl) rfl #[.string a0] rfl am ?_; (with_reducible refine (stringslite_Clone.calls a0 t101 _ A2.out).mono ?_); rintro e w3 ⟨rfl, hb⟩; refine ⟨_, rfl, ?_⟩; replace HB := AM (below_step bl hb); (try clear hb)))
 go_ret
 exact ⟨by first | rfl | (simp [errW_none, errW_some] <;> rfl) | (simp [*, errW_none, errW_some] <;> rfl) | ((generalize ByteArray.toList _ = z_); cases z_ <;> first | rfl | (simp; done)), bl⟩

/-! ### big_Norm: function 27 -/
def big_Norm.f (k : Nat) (a0 : Bool) (a1 : ByteArray) : Option (ByteArray) := (big_digits.f k a1).bind fun t102 => (if t102 = true then ((strings_TrimLeft.f a1 (⟨#[48]⟩ : ByteArray)).bind fun t103 => (if t103.toList = ([] : List UInt8) then (some (⟨#[48]⟩ : ByteArray)) else (if a0 = true then (if 1 + t103.size ≤ 9223372036854775807 then (some ((⟨#[45]⟩ : ByteArray) ++ t103)) else (none)) else ((strings_Clone.f t103).bind fun t104 => (some t104))))) else (some (⟨#[]⟩ : ByteArray)))
theorem big_Norm.mono : ∀ a0 a1 k, LeO (big_Norm.f k a0 a1) (big_Norm.f (k + 1) a0 a1) := by
 intro a0 a1 k
 unfold big_Norm.f
 repeat' first | (with_reducible exact big_digits.mono _ _) | (with_reducible exact LeO.refl _) | (with_reducible exact LeO.none _) | (with_reducible refine LeO.ite ?_ ?_) | (with_reducible refine LeO.bind ?_ (fun _ => ?_)) | exact big_digits.mono _ _ | exact LeO.none _ | refine LeO.ite ?_ ?_ | refine LeO.bind ?_ (fun _ => ?_)
set_option maxHeartbeats 8000000 in
set_option maxRecDepth 100000 in
theorem big_Norm.calls (k : Nat) (a0 : Bool) (a1 : ByteArray) (r : ByteArray) (w : World) (h : big_Norm.f k a0 a1 = some r) :
  Calls Tryd.prog 27 #[.bool a0, .string a1] w fun e w' => e = .returned (.string r) ∧ Below w.heap.size w w' := by
 have HB := AM (Below.refl w.heap.size w)
 have H : ((big_digits.f k a1).bind fun t102 => (if t102 = true then ((strings_TrimLeft.f a1 (⟨#[48]⟩ : ByteArray)).bind fun t103 => (if t103.toList = ([] : List UInt8) then (some (⟨#[48]⟩ : ByteArray)) else (if a0 = true then (if 1 + t103.size ≤ 9223372036854775807 then (some ((⟨#[45]⟩ : ByteArray) ++ t103)) else (none)) else ((strings_Clone.f t103).bind fun t104 => (some t104))))) else (some (⟨#[]⟩ : ByteArray)))) = some r := h
 clear h
 replace H := Option.bind_eq_some_iff.mp H
 obtain ⟨t102, A30, H⟩ := H
 replace H : (if t102 = true then ((strings_TrimLeft.f a1 (⟨#[48]⟩ : ByteArray)).bind fun t103 => (if t103.toList = ([] : List UInt8) then (some (⟨#[48]⟩ : ByteArray)) else (if a0 = true then (if 1 + t103.size ≤ 9223372036854775807 then (some ((⟨#[45]⟩ : ByteArray) ++ t103)) else (none)) else ((strings_Clone.f t103).bind fun t104 => (some t104))))) else (some (⟨#[]⟩ : ByteArray))) = some r := H
 have A3 := AM A30
 clear A30
 by_cases c4 : t102 = true
 ·subst c4
  have H1 : ((strings_TrimLeft.f a1 (⟨#[48]⟩ : ByteArray)).bind fun t103 => (if t103.toList = ([] : List UInt8) then (some (⟨#[48]⟩ : ByteArray)) else (if a0 = true then (if 1 + t103.size ≤ 9223372036854775807 then (some ((⟨#[45]⟩ : ByteArray) ++ t103)) else (none)) else ((strings_Clone.f t103).bind fun t104 => (some t104))))) = some r := by rw [if_pos rfl] at H; exact H
  clear H
  have H := H1
  clear H1
  replace H := Option.bind_eq_some_iff.mp H
  obtain ⟨t103, A50, H⟩ := H
  replace H : (if t103.toList = ([] : List UInt8) then (some (⟨#[48]⟩ : ByteArray)) else (if a0 = true then (if 1 + t103.size ≤ 9223372036854775807 then (some ((⟨#[45]⟩ : ByteArray) ++ t103)) else (none)) else ((strings_Clone.f t103).bind fun t104 => (some t104)))) = some r := H
  have A5 := AM A50
  clear A50
  by_cases c6 : t103.toList = ([] : List UInt8)
  ·rw [if_pos c6] at H
   have c6b0 : (t103.toList == ([] : List UInt8)) = true := beq_iff_eq.mpr c6
   have c6b1 : (t103.toList != ([] : List UInt8)) = false := bne_eq_false_iff_eq.mpr c6
   clear c6
   obtain rfl := Option.some.inj H
   go_enter Tryd.func27, Tryd.ntmps27
   go_wp2_with (first | ((with_reducible refine gate_callee (f := 44) rfl ?_); refine goesL_ (some 6) rfl rfl Tryd.func44 (by kernel_rfl) rfl #[.string a1] rfl am ?_; (with_reducible refine (big_digits.calls k a1 true _ A3.out).mono ?_); rintro e w' ⟨rfl, ⟨nd, rfl⟩⟩; refine ⟨_, rfl, ?_⟩) | ((with_reducible refine gate_callee (f := 45) rfl ?_); refine goesL_ (some 9) rfl rfl Tryd.func45 (by kernel_rfl) rfl #[.string a1, .string (⟨#[48]⟩ : ByteArray)] rfl am ?_; (with_reducible refine (strings_TrimLeft.calls a1 (⟨#[48]⟩ : ByteArray) t103 _ A5.out).mono ?_); rintro e w7 ⟨rfl, hb⟩; refine ⟨_, rfl, ?_⟩; replace HB := AM (below_step bl hb); (try clear hb)))
   go_ret
   exact ⟨by first | rfl | (simp [errW_none, errW_some] <;> rfl) | (simp [*, errW_none, errW_some] <;> rfl) | ((generalize ByteArray.toList _ = z_); cases z_ <;> first | rfl | (simp; done)), bl⟩
  ·rw [if_neg c6] at H
   have c6b0 : (t103.toList == ([] : List UInt8)) = false := beq_eq_false_iff_ne.mpr c6
   have c6b1 : (t103.toList != ([] : List UInt8)) = true := bne_iff_ne.mpr c6
   by_cases c8 : a0 = true
   ·subst c8
    have H1 : (if 1 + t103.size ≤ 9223372036854775807 then (some ((⟨#[45]⟩ : ByteArray) ++ t103)) else (none)) = some r := by rw [if_pos rfl] at H; exact H
    clear H; have H := H1; clear H1; by_cases c9 : 1 + t103.size ≤ 9223372036854775807
    ·rw [if_pos c9] at H
     have c9b0 := eq_true c9; have c9b1 : decide (1 + t103.size ≤ 9223372036854775807) = true := decide_eq_true c9; try have c9b2 : (9223372036854775807 < 1 + t103.size) = False := eq_false (Nat.not_lt.2 c9)
     obtain rfl := Option.some.inj H; go_enter Tryd.func27, Tryd.ntmps27; go_wp2_with (first | ((with_reducible refine gate_callee (f := 44) rfl ?_); refine goesL_ (some 6) rfl rfl Tryd.func44 (by kernel_rfl) rfl #[.string a1] rfl am ?_; (with_reducible refine (big_digits.calls k a1 true _ A3.out).mono ?_); rintro e w' ⟨rfl, ⟨nd, rfl⟩⟩; refine ⟨_, rfl, ?_⟩) | ((with_reducible refine gate_callee (f := 45) rfl ?_); refine goesL_ (some 9) rfl rfl Tryd.func45 (by kernel_rfl) rfl #[.string a1, .string (⟨#[48]⟩ : ByteArray)] rfl am ?_; (with_reducible refine (strings_TrimLeft.calls a1 (⟨#[48]⟩ : ByteArray) t103 _ A5.out).mono ?_); rintro e w10 ⟨rfl, hb⟩; refine ⟨_, rfl, ?_⟩; replace HB := AM (below_step bl hb); (try clear hb))); go_ret
     exact ⟨by first | rfl | (simp [errW_none, errW_some] <;> rfl) | (simp [*, errW_none, errW_some] <;> rfl) | ((generalize ByteArray.toList _ = z_); cases z_ <;> first | rfl | (simp; done)), bl⟩
    ·rw [if_neg c9] at H
     exact absurd H (by simp)
   ·replace c8 := Bool.eq_false_iff.mpr c8
    subst c8; have H1 : ((strings_Clone.f t103).bind fun t104 => (some t104)) = some r := by rw [if_neg (show ¬ (false = true) by decide)] at H; exact H
    clear H; have H := H1; clear H1; replace H := Option.bind_eq_some_iff.mp H; obtain ⟨t104, A110, H⟩ := H; replace H : (some t104) = some r := H; have A11 := AM A110; clear A110; obtain rfl := Option.some.inj H; go_enter Tryd.func27, Tryd.ntmps27; go_wp2_with (first | ((with_reducible refine gate_callee (f := 44) rfl ?_); refine goesL_ (some 6) rfl rfl Tryd.func44 (by kernel_rfl) rfl #[.string a1] rfl am ?_; (with_reducible refine (big_digits.calls k a1 true _ A3.out).mono ?_); rintro e w' ⟨rfl, ⟨nd, rfl⟩⟩; refine ⟨_, rfl, ?_⟩) | ((with_reducible refine gate_callee (f := 45) rfl ?_); refine goesL_ (some 9) rfl rfl Tryd.func45 (by kernel_rfl) rfl #[.string a1, .string (⟨#[48]⟩ : ByteArray)] rfl am ?_; (with_reducible refine (strings_TrimLeft.calls a1 (⟨#[48]⟩ : ByteArray) t103 _ A5.out).mono ?_); rintro e w12 ⟨rfl, hb⟩; refine ⟨_, rfl, ?_⟩; replace HB := AM (below_step bl hb); (try clear hb)) | ((with_reducible refine gate_callee (f := 46) rfl ?_); refine goesL_ (some 18) rfl rfl Tryd.func46 (by kernel_rfl) rfl #[.string t103] rfl am ?_; (with_reducible refine (strings_Clone.calls t103 t104 _ A11.out).mono ?_); rintro e w13 ⟨rfl, hb⟩; refine ⟨_, rfl, ?_⟩; replace HB := AM (below_step bl hb); (try clear hb))); go_ret
    exact ⟨by first | rfl | (simp [errW_none, errW_some] <;> rfl) | (simp [*, errW_none, errW_some] <;> rfl) | ((generalize ByteArray.toList _ = z_); cases z_ <;> first | rfl | (simp; done)), bl⟩
 ·replace c4 := Bool.eq_false_iff.mpr c4
  subst c4
  have H1 : (some (⟨#[]⟩ : ByteArray)) = some r := by rw [if_neg (show ¬ (false = true) by decide)] at H; exact H
  clear H
  have H := H1
  clear H1
  obtain rfl := Option.some.inj H
  go_enter Tryd.func27, Tryd.ntmps27
  go_wp2_with (first | ((with_reducible refine gate_callee (f := 44) rfl ?_); refine goesL_ (some 6) rfl rfl Tryd.func44 (by kernel_rfl) rfl #[.string a1] rfl am ?_; (with_reducible refine (big_digits.calls k a1 false _ A3.out).mono ?_); rintro e w' ⟨rfl, ⟨nd, rfl⟩⟩; refine ⟨_, rfl, ?_⟩))
  go_ret
  exact ⟨by first | rfl | (simp [errW_none, errW_some] <;> rfl) | (simp [*, errW_none, errW_some] <;> rfl) | ((generalize ByteArray.toList _ = z_); cases z_ <;> first | rfl | (simp; done)), bl⟩

/-! ### float11_word: function 55 -/
mutual
def float11_word.j0 : Nat → Bool → ByteArray → Bool → Option (Int)
 | 0, _, _, _ => none
 | k + 1, x1, x5, x6 => if x6 = true then (some 4) else (if x5.toList = ([46, 110, 97, 110] : List UInt8) then (float11_word.j1 k x1 (x5.toList == ([46, 110, 97, 110] : List UInt8))) else (if x5.toList = ([46, 78, 97, 78] : List UInt8) then (float11_word.j1 k x1 (x5.toList == ([46, 78, 97, 78] : List UInt8))) else (float11_word.j1 k x1 (x5.toList == ([46, 78, 65, 78] : List UInt8)))))
def float11_word.j1 : Nat → Bool → Bool → Option (Int)
 | 0, _, _ => none
 | k + 1, x1, x10 => if x10 = true then (if x1 = true then (some 0) else (some 5)) else (some 0)
end
def float11_word.f (k : Nat) (a0 : ByteArray) (a1 : Bool) : Option (Int) := if a0.toList = ([46, 105, 110, 102] : List UInt8) then (float11_word.j0 k a1 a0 (a0.toList == ([46, 105, 110, 102] : List UInt8))) else (if a0.toList = ([46, 73, 110, 102] : List UInt8) then (float11_word.j0 k a1 a0 (a0.toList == ([46, 73, 110, 102] : List UInt8))) else (float11_word.j0 k a1 a0 (a0.toList == ([46, 73, 78, 70] : List UInt8))))
theorem float11_word.mono_l : ∀ k, (∀ y0 y1 y2, LeO (float11_word.j0 k y0 y1 y2) (float11_word.j0 (k + 1) y0 y1 y2)) ∧ (∀ y0 y1, LeO (float11_word.j1 k y0 y1) (float11_word.j1 (k + 1) y0 y1))
 | 0 => ⟨fun _ _ _ r h => by simp [float11_word.j0] at h, fun _ _ r h => by simp [float11_word.j1] at h⟩
 | k + 1 => by
  obtain ⟨ih0, ih1⟩ := float11_word.mono_l k
  refine ⟨?_, ?_⟩
  ·intro y0 y1 y2
   unfold float11_word.j0
   repeat' first | (with_reducible exact ih0 _ _ _) | (with_reducible exact ih1 _ _) | (with_reducible exact LeO.refl _) | (with_reducible exact LeO.none _) | (with_reducible refine LeO.ite ?_ ?_) | (with_reducible refine LeO.bind ?_ (fun _ => ?_)) | exact ih0 _ _ _ | exact ih1 _ _ | exact LeO.none _ | refine LeO.ite ?_ ?_ | refine LeO.bind ?_ (fun _ => ?_)
  ·intro y0 y1
   unfold float11_word.j1
   repeat' first | (with_reducible exact ih0 _ _ _) | (with_reducible exact ih1 _ _) | (with_reducible exact LeO.refl _) | (with_reducible exact LeO.none _) | (with_reducible refine LeO.ite ?_ ?_) | (with_reducible refine LeO.bind ?_ (fun _ => ?_)) | exact ih0 _ _ _ | exact ih1 _ _ | exact LeO.none _ | refine LeO.ite ?_ ?_ | refine LeO.bind ?_ (fun _ => ?_)
theorem float11_word.mono : ∀ a0 a1 k, LeO (float11_word.f k a0 a1) (float11_word.f (k + 1) a0 a1) := by
 intro a0 a1 k
 obtain ⟨ih0, ih1⟩ := float11_word.mono_l k
 unfold float11_word.f
 repeat' first | (with_reducible exact ih0 _ _ _) | (with_reducible exact ih1 _ _) | (with_reducible exact LeO.refl _) | (with_reducible exact LeO.none _) | (with_reducible refine LeO.ite ?_ ?_) | (with_reducible refine LeO.bind ?_ (fun _ => ?_)) | exact ih0 _ _ _ | exact ih1 _ _ | exact LeO.none _ | refine LeO.ite ?_ ?_ | refine LeO.bind ?_ (fun _ => ?_)
set_option maxHeartbeats 8000000 in
set_option maxRecDepth 100000 in
theorem float11_word.calls (k : Nat) (a0 : ByteArray) (a1 : Bool) (r : Int) (w : World) (h : float11_word.f k a0 a1 = some r) :
  Calls Tryd.prog 55 #[.string a0, .bool a1] w fun e w' => e = .returned (.int .i64 r) ∧ Drawn0 w w' := by
 have H : (if a0.toList = ([46, 105, 110, 102] : List UInt8) then (float11_word.j0 k a1 a0 (a0.toList == ([46, 105, 110, 102] : List UInt8))) else (if a0.toList = ([46, 73, 110, 102] : List UInt8) then (float11_word.j0 k a1 a0 (a0.toList == ([46, 73, 110, 102] : List UInt8))) else (float11_word.j0 k a1 a0 (a0.toList == ([46, 73, 78, 70] : List UInt8))))) = some r := h
 clear h
 have HC3 := AM H
 clear H
 go_enter Tryd.func55, Tryd.ntmps55
 go_upto_if 6 with (fail)
 go_cut [6] (fun v6 wc => ∃ (kq : Nat) (x6_2 : Bool), v6 = .bool x6_2 ∧ Aside0 (float11_word.j0 kq a1 a0 x6_2 = some r) ∧ Aside0 (kq ≤ k) ∧ Drawn0 w wc)
 case first =>
  have H := HC3.out
  clear HC3
  by_cases c4 : a0.toList = ([46, 105, 110, 102] : List UInt8)
  ·rw [if_pos c4] at H
   have c4b0 : (a0.toList == ([46, 105, 110, 102] : List UInt8)) = true := beq_iff_eq.mpr c4
   have c4b1 : (a0.toList != ([46, 105, 110, 102] : List UInt8)) = false := bne_eq_false_iff_eq.mpr c4
   clear c4
   (first | rw [c4b0] | (simp only [qi, qj]; rw [c4b0]) | skip)
   have H' := AM H
   clear H
   go_wp2
   go_meet
   case rel => exact ⟨_, ((a0.toList == ([46, 105, 110, 102] : List UInt8))), rq, H', ⟨by first | omega | exact Nat.le_refl _⟩, by repeat (first | exact Drawn0.refl _ | apply Drawn0.step)⟩
  ·rw [if_neg c4] at H
   have c4b0 : (a0.toList == ([46, 105, 110, 102] : List UInt8)) = false := beq_eq_false_iff_ne.mpr c4
   have c4b1 : (a0.toList != ([46, 105, 110, 102] : List UInt8)) = true := bne_iff_ne.mpr c4
   (first | rw [c4b0] | (simp only [qi, qj]; rw [c4b0]) | skip)
   by_cases c5 : a0.toList = ([46, 73, 110, 102] : List UInt8)
   ·rw [if_pos c5] at H
    have c5b0 : (a0.toList == ([46, 73, 110, 102] : List UInt8)) = true := beq_iff_eq.mpr c5; have c5b1 : (a0.toList != ([46, 73, 110, 102] : List UInt8)) = false := bne_eq_false_iff_eq.mpr c5; clear c5; have H' := AM H; clear H; go_wp2; go_meet
    case rel => exact ⟨_, ((a0.toList == ([46, 73, 110, 102] : List UInt8))), rq, H', ⟨by first | omega | exact Nat.le_refl _⟩, by repeat (first | exact Drawn0.refl _ | apply Drawn0.step)⟩
   ·rw [if_neg c5] at H
    have c5b0 : (a0.toList == ([46, 73, 110, 102] : List UInt8)) = false := beq_eq_false_iff_ne.mpr c5; have c5b1 : (a0.toList != ([46, 73, 110, 102] : List UInt8)) = true := bne_iff_ne.mpr c5; have H' := AM H; clear H; go_wp2; go_meet
    case rel => exact ⟨_, ((a0.toList == ([46, 73, 78, 70] : List UInt8))), rq, H', ⟨by first | omega | exact Nat.le_refl _⟩, by repeat (first | exact Drawn0.refl _ | apply Drawn0.step)⟩
 case rest =>
  clear HC3
  obtain ⟨kq, x6_2, rfl, HA, HJ2, ⟨mc2, rfl⟩⟩ := hcut
  cases kq with
  | zero => exact absurd HA.out (by simp [float11_word.j0])
  | succ kj2 =>
   have H := HA.out
   clear HA
   simp only [float11_word.j0] at H
   by_cases c6 : x6_2 = true
   ·subst c6
    have H1 : (some 4) = some r := by rw [if_pos rfl] at H; exact H
    clear H; have H := H1; clear H1; obtain rfl := Option.some.inj H; go_wp2; go_ret
    exact ⟨by first | rfl | (simp; done) | (simp [*]; done) | (simp [wrap64]; done) | (simp; (generalize ByteArray.toList _ = z_); cases z_ <;> first | rfl | simp), by repeat (first | exact Drawn0.refl _ | apply Drawn0.step)⟩
   ·replace c6 := Bool.eq_false_iff.mpr c6
    subst c6; have H1 : (if a0.toList = ([46, 110, 97, 110] : List UInt8) then (float11_word.j1 kj2 a1 (a0.toList == ([46, 110, 97, 110] : List UInt8))) else (if a0.toList = ([46, 78, 97, 78] : List UInt8) then (float11_word.j1 kj2 a1 (a0.toList == ([46, 78, 97, 78] : List UInt8))) else (float11_word.j1 kj2 a1 (a0.toList == ([46, 78, 65, 78] : List UInt8))))) = some r := by rw [if_neg (show ¬ (false = true) by decide)] at H; exact H
    clear H; have H := H1; clear H1; have HC7 := AM H; clear H; go_upto_if 10 with (fail)
    go_cut [10] (fun v10 wc => ∃ (kq : Nat) (x10_6 : Bool), v10 = .bool x10_6 ∧ Aside0 (float11_word.j1 kq a1 x10_6 = some r) ∧ Aside0 (kq ≤ kj2) ∧ Drawn0 w wc)
    case first =>
     have H := HC7.out; clear HC7; by_cases c8 : a0.toList = ([46, 110, 97, 110] : List UInt8)
     ·rw [if_pos c8] at H
      have c8b0 : (a0.toList == ([46, 110, 97, 110] : List UInt8)) = true := beq_iff_eq.mpr c8; have c8b1 : (a0.toList != ([46, 110, 97, 110] : List UInt8)) = false := bne_eq_false_iff_eq.mpr c8; clear c8; (first | rw [c8b0] | (simp only [qi, qj]; rw [c8b0]) | skip); have H' := AM H; clear H; go_wp2; go_meet
      case rel => exact ⟨_, ((a0.toList == ([46, 110, 97, 110] : List UInt8))), rq, H', ⟨by have := HJ2.out; first | omega | exact Nat.le_refl _⟩, by repeat (first | exact Drawn0.refl _ | apply Drawn0.step)⟩
     ·rw [if_neg c8] at H
      have c8b0 : (a0.toList == ([46, 110, 97, 110] : List UInt8)) = false := beq_eq_false_iff_ne.mpr c8; have c8b1 : (a0.toList != ([46, 110, 97, 110] : List UInt8)) = true := bne_iff_ne.mpr c8; (first | rw [c8b0] | (simp only [qi, qj]; rw [c8b0]) | skip); by_cases c9 : a0.toList = ([46, 78, 97, 78] : List UInt8)
      ·rw [if_pos c9] at H
       have c9b0 : (a0.toList == ([46, 78, 97, 78] : List UInt8)) = true := beq_iff_eq.mpr c9; have c9b1 : (a0.toList != ([46, 78, 97, 78] : List UInt8)) = false := bne_eq_false_iff_eq.mpr c9; clear c9; have H' := AM H; clear H; go_wp2; go_meet
       case rel => exact ⟨_, ((a0.toList == ([46, 78, 97, 78] : List UInt8))), rq, H', ⟨by have := HJ2.out; first | omega | exact Nat.le_refl _⟩, by repeat (first | exact Drawn0.refl _ | apply Drawn0.step)⟩
      ·rw [if_neg c9] at H
       have c9b0 : (a0.toList == ([46, 78, 97, 78] : List UInt8)) = false := beq_eq_false_iff_ne.mpr c9; have c9b1 : (a0.toList != ([46, 78, 97, 78] : List UInt8)) = true := bne_iff_ne.mpr c9; have H' := AM H; clear H; go_wp2; go_meet
       case rel => exact ⟨_, ((a0.toList == ([46, 78, 65, 78] : List UInt8))), rq, H', ⟨by have := HJ2.out; first | omega | exact Nat.le_refl _⟩, by repeat (first | exact Drawn0.refl _ | apply Drawn0.step)⟩
    case rest =>
     clear HC7; try clear c6
     obtain ⟨kq, x10_6, rfl, HA, HJ6, ⟨mc6, rfl⟩⟩ := hcut; cases kq with
     | zero => exact absurd HA.out (by simp [float11_word.j1])
     | succ kj6 =>
      have H := HA.out; clear HA; simp only [float11_word.j1] at H; by_cases c10 : x10_6 = true
      ·subst c10
       have H1 : (if a1 = true then (some 0) else (some 5)) = some r := by rw [if_pos rfl] at H; exact H
       clear H; have H := H1; clear H1; by_cases c11 : a1 = true
       ·subst c11
        have H1 : (some 0) = some r := by rw [if_pos rfl] at H; exact H
        clear H; have H := H1; clear H1; obtain rfl := Option.some.inj H; go_wp2; go_ret
        exact ⟨by first | rfl | (simp; done) | (simp [*]; done) | (simp [wrap64]; done) | (simp; (generalize ByteArray.toList _ = z_); cases z_ <;> first | rfl | simp), by repeat (first | exact Drawn0.refl _ | apply Drawn0.step)⟩
       ·replace c11 := Bool.eq_false_iff.mpr c11
        subst c11; have H1 : (some 5) = some r := by rw [if_neg (show ¬ (false = true) by decide)] at H; exact H
        clear H; have H := H1; clear H1; obtain rfl := Option.some.inj H; go_wp2; go_ret
        exact ⟨by first | rfl | (simp; done) | (simp [*]; done) | (simp [wrap64]; done) | (simp; (generalize ByteArray.toList _ = z_); cases z_ <;> first | rfl | simp), by repeat (first | exact Drawn0.refl _ | apply Drawn0.step)⟩
      ·replace c10 := Bool.eq_false_iff.mpr c10
       subst c10; have H1 : (some 0) = some r := by rw [if_neg (show ¬ (false = true) by decide)] at H; exact H
       clear H; have H := H1; clear H1; obtain rfl := Option.some.inj H; go_wp2; go_ret
       exact ⟨by first | rfl | (simp; done) | (simp [*]; done) | (simp [wrap64]; done) | (simp; (generalize ByteArray.toList _ = z_); cases z_ <;> first | rfl | simp), by repeat (first | exact Drawn0.refl _ | apply Drawn0.step)⟩

/-! ### float11_digit: function 56 -/
def float11_digit.f (a0 : Int) : Option (Bool) := if a0 ≥ 48 then (some (decide (a0 ≤ 57))) else (some false)
set_option maxHeartbeats 8000000 in
set_option maxRecDepth 100000 in
theorem float11_digit.calls (a0 : Int) (r : Bool) (w : World) (h : float11_digit.f a0 = some r) :
  Calls Tryd.prog 56 #[.int .u8 a0] w fun e w' => e = .returned (.bool r) ∧ Drawn0 w w' := by
 have H : (if a0 ≥ 48 then (some (decide (a0 ≤ 57))) else (some false)) = some r := h
 clear h
 by_cases c2 : a0 ≥ 48
 ·rw [if_pos c2] at H
  have c2b0 : decide (48 ≤ a0) = true := decide_eq_true c2
  clear c2
  obtain rfl := Option.some.inj H
  go_enter Tryd.func56, Tryd.ntmps56
  go_wp2
  go_ret
  exact ⟨by first | rfl | (simp; done) | (simp [*]; done) | (simp [wrap64]; done) | (simp; (generalize ByteArray.toList _ = z_); cases z_ <;> first | rfl | simp), by repeat (first | exact Drawn0.refl _ | apply Drawn0.step)⟩
 ·rw [if_neg c2] at H
  have c2b0 : decide (48 ≤ a0) = false := decide_eq_false c2
  clear c2
  obtain rfl := Option.some.inj H
  go_enter Tryd.func56, Tryd.ntmps56
  go_wp2
  go_ret
  exact ⟨by first | rfl | (simp; done) | (simp [*]; done) | (simp [wrap64]; done) | (simp; (generalize ByteArray.toList _ = z_); cases z_ <;> first | rfl | simp), by repeat (first | exact Drawn0.refl _ | apply Drawn0.step)⟩

/-! ### float11_row: function 57 -/
def float11_row.l0 : Nat → ByteArray → Int → Option (Int)
 | 0, _, _ => none
 | k + 1, x0, x3 => if x3 < (x0.size : Int) then (if 0 ≤ x3 then (if (bt x0 x3) = 95 then (float11_row.l0 k x0 (wrap64 (x3 + 1))) else ((float11_digit.f (bt x0 x3)).bind fun t105 => (if t105 = true then (float11_row.l0 k x0 (wrap64 (x3 + 1))) else (some x3)))) else (none)) else (some x3)
def float11_row.f (k : Nat) (a0 : ByteArray) : Option (Int) := float11_row.l0 k a0 0
theorem float11_row.mono_l : ∀ k, (∀ y0 y1, LeO (float11_row.l0 k y0 y1) (float11_row.l0 (k + 1) y0 y1))
 | 0 => fun _ _ r h => by simp [float11_row.l0] at h
 | k + 1 => by
  have ih0 := float11_row.mono_l k
  ·intro y0 y1
   unfold float11_row.l0
   repeat' first | (with_reducible exact ih0 _ _) | (with_reducible exact LeO.refl _) | (with_reducible exact LeO.none _) | (with_reducible refine LeO.ite ?_ ?_) | (with_reducible refine LeO.bind ?_ (fun _ => ?_)) | exact ih0 _ _ | exact LeO.none _ | refine LeO.ite ?_ ?_ | refine LeO.bind ?_ (fun _ => ?_)
theorem float11_row.mono : ∀ a0 k, LeO (float11_row.f k a0) (float11_row.f (k + 1) a0) := by
 intro a0 k
 have ih0 := float11_row.mono_l k
 unfold float11_row.f
 repeat' first | (with_reducible exact ih0 _ _) | (with_reducible exact LeO.refl _) | (with_reducible exact LeO.none _) | (with_reducible refine LeO.ite ?_ ?_) | (with_reducible refine LeO.bind ?_ (fun _ => ?_)) | exact ih0 _ _ | exact LeO.none _ | refine LeO.ite ?_ ?_ | refine LeO.bind ?_ (fun _ => ?_)
set_option maxHeartbeats 8000000 in
set_option maxRecDepth 100000 in
theorem float11_row.calls (k : Nat) (a0 : ByteArray) (r : Int) (w : World) (h : float11_row.f k a0 = some r) :
  Calls Tryd.prog 57 #[.string a0] w fun e w' => e = .returned (.int .i64 r) ∧ Drawn0 w w' := by
 have H : (float11_row.l0 k a0 0) = some r := h
 clear h
 have H' := AM H
 clear H
 go_enter Tryd.func57, Tryd.ntmps57
 go_wp2
 go_loopg [3] k (fun kq v3 w' => ∃ (x3_1 : Int), v3 = .int .i64 x3_1 ∧ Aside0 (float11_row.l0 kq a0 x3_1 = some r) ∧ Aside0 (kq ≤ k) ∧ Drawn0 w w')
 case atStart => exact ⟨(0), rq, H', ⟨Nat.le_refl _⟩, by repeat (first | exact Drawn0.refl _ | apply Drawn0.step)⟩
 case round =>
  clear H'
  obtain ⟨x3_1, rfl, HA, HK1, ⟨m1, rfl⟩⟩ := hrel
  cases gk with
  | zero => exact absurd HA.out (by simp [float11_row.l0])
  | succ k1 =>
   have H := HA.out
   clear HA
   simp only [float11_row.l0] at H
   by_cases c2 : x3_1 < (a0.size : Int)
   ·rw [if_pos c2] at H
    have c2b0 : decide (x3_1 < (a0.size : Int)) = true := decide_eq_true c2; clear c2; by_cases c3 : 0 ≤ x3_1
    ·rw [if_pos c3] at H
     have c3b0 : decide (0 ≤ x3_1) = true := decide_eq_true c3; clear c3; by_cases c5 : (bt a0 x3_1) = 95
     ·rw [if_pos c5] at H
      have c5b0 : ((bt a0 x3_1) == 95) = true := beq_iff_eq.mpr c5; have c5b1 : ((bt a0 x3_1) != 95) = false := bne_eq_false_iff_eq.mpr c5; clear c5; have H' := AM H; clear H; have p4 : 0 ≤ (x3_1 : Int) := od; have q4 : x3_1 < (a0.size : Int) := od; have hx4 := bt_at a0 x3_1; replace p4 := eq_true p4; replace q4 := eq_true q4; go_wp2; go_roundg k1
      case measure => have := HK1.out; omega
      case rel => exact ⟨(wrap64 (x3_1 + 1)), rq, H', ⟨by have := HK1.out; omega⟩, by repeat (first | exact Drawn0.refl _ | apply Drawn0.step)⟩
     ·rw [if_neg c5] at H
      have c5b0 : ((bt a0 x3_1) == 95) = false := beq_eq_false_iff_ne.mpr c5; have c5b1 : ((bt a0 x3_1) != 95) = true := bne_iff_ne.mpr c5; replace H := Option.bind_eq_some_iff.mp H; obtain ⟨t105, A70, H⟩ := H; replace H : (if t105 = true then (float11_row.l0 k1 a0 (wrap64 (x3_1 + 1))) else (some x3_1)) = some r := H; have A7 := AM A70; clear A70; by_cases c8 : t105 = true
      ·subst c8
       have H1 : (float11_row.l0 k1 a0 (wrap64 (x3_1 + 1))) = some r := by rw [if_pos rfl] at H; exact H
       clear H; have H := H1; clear H1; have H' := AM H; clear H; have p4 : 0 ≤ (x3_1 : Int) := od; have q4 : x3_1 < (a0.size : Int) := od; have hx4 := bt_at a0 x3_1; replace p4 := eq_true p4; replace q4 := eq_true q4; have p6 : 0 ≤ (x3_1 : Int) := od; have q6 : x3_1 < (a0.size : Int) := od; have hx6 := bt_at a0 x3_1; replace p6 := eq_true p6; replace q6 := eq_true q6; go_wp2_with (first | (go_at_call 56; (try (rename_i hK_; simp only [List.append] at hK_)); (with_reducible refine (float11_digit.calls (bt a0 x3_1) true _ A7.out).mono ?_); rintro e w' ⟨rfl, ⟨nd, rfl⟩⟩)); go_roundg k1
       case measure => have := HK1.out; omega
       case rel => exact ⟨(wrap64 (x3_1 + 1)), rq, H', ⟨by have := HK1.out; omega⟩, by repeat (first | exact Drawn0.refl _ | apply Drawn0.step)⟩
      ·replace c8 := Bool.eq_false_iff.mpr c8
       subst c8; have H1 : (some x3_1) = some r := by rw [if_neg (show ¬ (false = true) by decide)] at H; exact H
       clear H; have H := H1; clear H1; obtain rfl := Option.some.inj H; have p4 : 0 ≤ (x3_1 : Int) := od; have q4 : x3_1 < (a0.size : Int) := od; have hx4 := bt_at a0 x3_1; replace p4 := eq_true p4; replace q4 := eq_true q4; have p6 : 0 ≤ (x3_1 : Int) := od; have q6 : x3_1 < (a0.size : Int) := od; have hx6 := bt_at a0 x3_1; replace p6 := eq_true p6; replace q6 := eq_true q6; go_wp2_with (first | (go_at_call 56; (try (rename_i hK_; simp only [List.append] at hK_)); (with_reducible refine (float11_digit.calls (bt a0 x3_1) false _ A7.out).mono ?_); rintro e w' ⟨rfl, ⟨nd, rfl⟩⟩)); go_ret
       exact ⟨by first | rfl | (simp; done) | (simp [*]; done) | (simp [wrap64]; done) | (simp; (generalize ByteArray.toList _ = z_); cases z_ <;> first | rfl | simp), by repeat (first | exact Drawn0.refl _ | apply Drawn0.step)⟩
    ·rw [if_neg c3] at H
     exact absurd H (by simp)
   ·rw [if_neg c2] at H
    have c2b0 : decide (x3_1 < (a0.size : Int)) = false := decide_eq_false c2; clear c2; obtain rfl := Option.some.inj H; go_wp2; go_ret
    exact ⟨by first | rfl | (simp; done) | (simp [*]; done) | (simp [wrap64]; done) | (simp; (generalize ByteArray.toList _ = z_); cases z_ <;> first | rfl | simp), by repeat (first | exact Drawn0.refl _ | apply Drawn0.step)⟩

end Go.Proofs.YtkijneohhilboaaDoor.PO
