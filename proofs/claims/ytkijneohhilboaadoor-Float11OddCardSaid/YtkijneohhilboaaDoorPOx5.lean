/- Written by this session's own program (xprint, made over the kit's print): Lean functions with the same answers as the Go functions, and the proofs of that. Not trusted: Lean checks it. -/
import Derived.Test.YtkijneohhilboaaDoorPOx0
import Derived.Test.YtkijneohhilboaaDoorPOx2
import Derived.Test.YtkijneohhilboaaDoorPOx3
import Derived.Test.YtkijneohhilboaaDoorXW
import Derived.Test.YtkijneohhilboaaDoorXZ
namespace Go.Proofs.YtkijneohhilboaaDoor.PO
open Go.Proofs.YtkijneohhilboaaDoor.XZ
open Go.Proofs.YtkijneohhilboaaDoor.XW Go.RowKit Go.Proofs.YtkijneohhilboaaDoorW.PrintWords Go.Proofs.YtkijneohhilboaaDoorW.PrintLast Go.Proofs.YtkijneohhilboaaDoorW.PrintMore
attribute [local go_sem] max2_int min2_int max_two min_two max_three min_three max_four min_four   -- for this text's walks alone
set_option linter.unusedVariables false
set_option linter.unusedSimpArgs false

/-! ### strings_ReplaceAll: function 24 -/

def strings_ReplaceAll.f (a0 : ByteArray) (a1 : ByteArray) (a2 : ByteArray) : Option (ByteArray) := if a0.size < 4294967281 ∧ 1 ≤ a1.size ∧ a0.size + Lib.countB a0 a1 * a2.size ≤ 140737488355328 then some ⟨(Lib.replaceAll a0.data.toList a1.data.toList a2.data.toList).toArray⟩ else none
theorem strings_ReplaceAll.calls (a0 : ByteArray) (a1 : ByteArray) (a2 : ByteArray) (r : ByteArray) (w : World) (hG : Go.Proofs.YtkijneohhilboaaDoor.POT.Tabs w) (h : strings_ReplaceAll.f a0 a1 a2 = some r) :
  Calls Tryd.prog 24 #[.string a0, .string a1, .string a2] w fun e w' => e = .returned (.string r) ∧ Below w.heap.size w w' := by
 unfold strings_ReplaceAll.f at h
 split at h
 ·rename_i hc
  obtain rfl := Option.some.inj h
  obtain ⟨m, hm⟩ := hG.max
  exact Tryd.strings_ReplaceAll a0 a1 a2 m w hc.1 hm hc.2.1 hc.2.2
 ·cases h

/-! ### float11_Of_1: function 37 -/
def float11_Of_1.f (a0 : ByteArray) : Option (ByteArray) := (strings_ReplaceAll.f a0 (⟨#[95]⟩ : ByteArray) (⟨#[]⟩ : ByteArray)).bind fun t120 => (some t120)
set_option maxHeartbeats 8000000 in
set_option maxRecDepth 100000 in
theorem float11_Of_1.calls (a0 : ByteArray) (r : ByteArray) (w : World) (hG : Go.Proofs.YtkijneohhilboaaDoor.POT.Tabs w) (h : float11_Of_1.f a0 = some r) :
  Calls Tryd.prog 37 #[.string a0] w fun e w' => e = .returned (.string r) ∧ Below w.heap.size w w' := by
 have HG := AM hG
 clear hG
 have HB := AM (Below.refl w.heap.size w)
 have H : ((strings_ReplaceAll.f a0 (⟨#[95]⟩ : ByteArray) (⟨#[]⟩ : ByteArray)).bind fun t120 => (some t120)) = some r := h
 clear h
 replace H := Option.bind_eq_some_iff.mp H
 obtain ⟨t120, A20, H⟩ := H
 replace H : (some t120) = some r := H
 have A2 := AM A20
 clear A20
 obtain rfl := Option.some.inj H
 go_enter Tryd.func37, Tryd.ntmps37
 go_wp2_with (first | ((with_reducible refine gate_callee (f := 24) rfl ?_); refine goesL_ (some 4) rfl rfl Tryd.func24 (by kernel_rfl) rfl #[.string a0, .string (⟨#[95]⟩ : ByteArray), .string (⟨#[]⟩ : ByteArray)] rfl am ?_; (with_reducible refine (strings_ReplaceAll.calls a0 (⟨#[95]⟩ : ByteArray) (⟨#[]⟩ : ByteArray) t120 _ ?side1 A2.out).mono ?_); (case side1 => exact Go.Proofs.YtkijneohhilboaaDoor.POT.Tabs_below HG.out bl); rintro e w3 ⟨rfl, hb⟩; refine ⟨_, rfl, ?_⟩; replace HB := AM (below_step bl hb); (try clear hb)))
 go_ret
 exact ⟨by first | rfl | (simp [errW_none, errW_some] <;> rfl) | (simp [*, errW_none, errW_some] <;> rfl) | ((generalize ByteArray.toList _ = z_); cases z_ <;> first | rfl | (simp; done)), bl⟩

/-! ### stringslite_HasPrefix: function 78 -/
def stringslite_HasPrefix.f (a0 : ByteArray) (a1 : ByteArray) : Option (Bool) := if (a0.size : Int) ≥ (a1.size : Int) then (if 0 ≤ (a1.size : Int) then (if (a1.size : Int) ≤ (a0.size : Int) then (some ((a0.extract 0 ((a1.size : Int) : Int).toNat).toList == a1.toList)) else (none)) else (none)) else (some false)
set_option maxHeartbeats 8000000 in
set_option maxRecDepth 100000 in
theorem stringslite_HasPrefix.calls (a0 : ByteArray) (a1 : ByteArray) (r : Bool) (w : World) (h : stringslite_HasPrefix.f a0 a1 = some r) :
  Calls Tryd.prog 78 #[.string a0, .string a1] w fun e w' => e = .returned (.bool r) ∧ Drawn0 w w' := by
 have H : (if (a0.size : Int) ≥ (a1.size : Int) then (if 0 ≤ (a1.size : Int) then (if (a1.size : Int) ≤ (a0.size : Int) then (some ((a0.extract 0 ((a1.size : Int) : Int).toNat).toList == a1.toList)) else (none)) else (none)) else (some false)) = some r := h
 clear h
 by_cases c3 : (a0.size : Int) ≥ (a1.size : Int)
 ·rw [if_pos c3] at H
  have c3b0 : decide ((a1.size : Int) ≤ (a0.size : Int)) = true := decide_eq_true c3
  have c3b1 : decide (a1.size ≤ a0.size) = true := decide_eq_true (Int.ofNat_le.mp c3)
  clear c3
  by_cases c4 : 0 ≤ (a1.size : Int)
  ·rw [if_pos c4] at H
   have c4b0 := eq_true c4
   have c4b1 : decide (0 ≤ (a1.size : Int)) = true := decide_eq_true c4
   clear c4
   by_cases c5 : (a1.size : Int) ≤ (a0.size : Int)
   ·rw [if_pos c5] at H
    have c5b0 := eq_true c5; have c5b1 : decide ((a1.size : Int) ≤ (a0.size : Int)) = true := decide_eq_true c5; clear c5; obtain rfl := Option.some.inj H; go_enter Tryd.func78, Tryd.ntmps78; go_wp2; go_ret
    exact ⟨by first | rfl | (simp; done) | (simp [*]; done) | (simp [wrap64]; done) | (simp; (generalize ByteArray.toList _ = z_); cases z_ <;> first | rfl | simp), by repeat (first | exact Drawn0.refl _ | apply Drawn0.step)⟩
   ·rw [if_neg c5] at H
    exact absurd H (by simp)
  ·rw [if_neg c4] at H
   exact absurd H (by simp)
 ·rw [if_neg c3] at H
  have c3b0 : decide ((a1.size : Int) ≤ (a0.size : Int)) = false := decide_eq_false c3
  have c3b1 : decide (a1.size ≤ a0.size) = false := decide_eq_false (fun h => c3 (Int.ofNat_le.mpr h))
  clear c3
  obtain rfl := Option.some.inj H
  go_enter Tryd.func78, Tryd.ntmps78
  go_wp2
  go_ret
  exact ⟨by first | rfl | (simp; done) | (simp [*]; done) | (simp [wrap64]; done) | (simp; (generalize ByteArray.toList _ = z_); cases z_ <;> first | rfl | simp), by repeat (first | exact Drawn0.refl _ | apply Drawn0.step)⟩

/-! ### stringslite_CutPrefix: function 107 -/
def stringslite_CutPrefix.f (a0 : ByteArray) (a1 : ByteArray) : Option (ByteArray × Bool) := (stringslite_HasPrefix.f a0 a1).bind fun t121 => (if t121 = true then (if 0 ≤ (a1.size : Int) then (if (a1.size : Int) ≤ (a0.size : Int) then (some (a0.extract ((a1.size : Int) : Int).toNat a0.size, true)) else (none)) else (none)) else (some (a0, false)))
set_option maxHeartbeats 8000000 in
set_option maxRecDepth 100000 in
theorem stringslite_CutPrefix.calls (a0 : ByteArray) (a1 : ByteArray) (r1 : ByteArray) (r2 : Bool) (w : World) (h : stringslite_CutPrefix.f a0 a1 = some (r1, r2)) :
  Calls Tryd.prog 107 #[.string a0, .string a1] w fun e w' => e = .returned (.tuple #[.string r1, .bool r2]) ∧ Drawn0 w w' := by
 have H : ((stringslite_HasPrefix.f a0 a1).bind fun t121 => (if t121 = true then (if 0 ≤ (a1.size : Int) then (if (a1.size : Int) ≤ (a0.size : Int) then (some (a0.extract ((a1.size : Int) : Int).toNat a0.size, true)) else (none)) else (none)) else (some (a0, false)))) = some (r1, r2) := h
 clear h
 replace H := Option.bind_eq_some_iff.mp H
 obtain ⟨t121, A30, H⟩ := H
 replace H : (if t121 = true then (if 0 ≤ (a1.size : Int) then (if (a1.size : Int) ≤ (a0.size : Int) then (some (a0.extract ((a1.size : Int) : Int).toNat a0.size, true)) else (none)) else (none)) else (some (a0, false))) = some (r1, r2) := H
 have A3 := AM A30
 clear A30
 by_cases c4 : t121 = true
 ·subst c4
  have H1 : (if 0 ≤ (a1.size : Int) then (if (a1.size : Int) ≤ (a0.size : Int) then (some (a0.extract ((a1.size : Int) : Int).toNat a0.size, true)) else (none)) else (none)) = some (r1, r2) := by rw [if_pos rfl] at H; exact H
  clear H
  have H := H1
  clear H1
  by_cases c5 : 0 ≤ (a1.size : Int)
  ·rw [if_pos c5] at H
   have c5b0 := eq_true c5
   have c5b1 : decide (0 ≤ (a1.size : Int)) = true := decide_eq_true c5
   clear c5
   by_cases c6 : (a1.size : Int) ≤ (a0.size : Int)
   ·rw [if_pos c6] at H
    have c6b0 := eq_true c6; have c6b1 : decide ((a1.size : Int) ≤ (a0.size : Int)) = true := decide_eq_true c6; clear c6; simp only [Option.some.injEq, Prod.mk.injEq] at H; obtain ⟨rfl, rfl⟩ := H; go_enter Tryd.func107, Tryd.ntmps107; go_wp2_with (first | ((with_reducible refine gate_callee (f := 78) rfl ?_); refine goesL_ (some 8) rfl rfl Tryd.func78 (by kernel_rfl) rfl #[.string a0, .string a1] rfl am ?_; (with_reducible refine (stringslite_HasPrefix.calls a0 a1 true _ A3.out).mono ?_); rintro e w' ⟨rfl, ⟨nd, rfl⟩⟩; refine ⟨_, rfl, ?_⟩)); go_ret2
    exact ⟨by first | rfl | (simp; done) | (simp [*]; done) | (simp [wrap64]; done) | (simp; (generalize ByteArray.toList _ = z_); cases z_ <;> first | rfl | simp), by repeat (first | exact Drawn0.refl _ | apply Drawn0.step)⟩
   ·rw [if_neg c6] at H
    exact absurd H (by simp)
  ·rw [if_neg c5] at H
   exact absurd H (by simp)
 ·replace c4 := Bool.eq_false_iff.mpr c4
  subst c4
  have H1 : (some (a0, false)) = some (r1, r2) := by rw [if_neg (show ¬ (false = true) by decide)] at H; exact H
  clear H
  have H := H1
  clear H1
  simp only [Option.some.injEq, Prod.mk.injEq] at H
  obtain ⟨rfl, rfl⟩ := H
  go_enter Tryd.func107, Tryd.ntmps107
  go_wp2_with (first | ((with_reducible refine gate_callee (f := 78) rfl ?_); refine goesL_ (some 8) rfl rfl Tryd.func78 (by kernel_rfl) rfl #[.string a0, .string a1] rfl am ?_; (with_reducible refine (stringslite_HasPrefix.calls a0 a1 false _ A3.out).mono ?_); rintro e w' ⟨rfl, ⟨nd, rfl⟩⟩; refine ⟨_, rfl, ?_⟩))
  go_ret2
  exact ⟨by first | rfl | (simp; done) | (simp [*]; done) | (simp [wrap64]; done) | (simp; (generalize ByteArray.toList _ = z_); cases z_ <;> first | rfl | simp), by repeat (first | exact Drawn0.refl _ | apply Drawn0.step)⟩

/-! ### strings_CutPrefix: function 96 -/
def strings_CutPrefix.f (a0 : ByteArray) (a1 : ByteArray) : Option (ByteArray × Bool) := (stringslite_CutPrefix.f a0 a1).bind fun bt122 => (some (bt122.1, bt122.2))
set_option maxHeartbeats 8000000 in
set_option maxRecDepth 100000 in
theorem strings_CutPrefix.calls (a0 : ByteArray) (a1 : ByteArray) (r1 : ByteArray) (r2 : Bool) (w : World) (h : strings_CutPrefix.f a0 a1 = some (r1, r2)) :
  Calls Tryd.prog 96 #[.string a0, .string a1] w fun e w' => e = .returned (.tuple #[.string r1, .bool r2]) ∧ Drawn0 w w' := by
 have H : ((stringslite_CutPrefix.f a0 a1).bind fun bt122 => (some (bt122.1, bt122.2))) = some (r1, r2) := h
 clear h
 replace H := Option.bind_eq_some_iff.mp H
 obtain ⟨⟨t122, t123⟩, A30, H⟩ := H
 replace H : (some (t122, t123)) = some (r1, r2) := H
 have A3 := AM A30
 clear A30
 simp only [Option.some.injEq, Prod.mk.injEq] at H
 obtain ⟨rfl, rfl⟩ := H
 go_enter Tryd.func96, Tryd.ntmps96
 go_wp2_with (first | ((with_reducible refine gate_callee (f := 107) rfl ?_); refine goesL_ (some 8) rfl rfl Tryd.func107 (by kernel_rfl) rfl #[.string a0, .string a1] rfl am ?_; (with_reducible refine (stringslite_CutPrefix.calls a0 a1 t122 t123 _ A3.out).mono ?_); rintro e w' ⟨rfl, ⟨nd, rfl⟩⟩; refine ⟨_, rfl, ?_⟩))
 go_ret2
 exact ⟨by first | rfl | (simp; done) | (simp [*]; done) | (simp [wrap64]; done) | (simp; (generalize ByteArray.toList _ = z_); cases z_ <;> first | rfl | simp), by repeat (first | exact Drawn0.refl _ | apply Drawn0.step)⟩

/-! ### big_parts: function 77 -/
def big_parts.f (a0 : ByteArray) : Option (Bool × ByteArray) := (strings_CutPrefix.f a0 (⟨#[45]⟩ : ByteArray)).bind fun bt124 => (some (bt124.2, bt124.1))
set_option maxHeartbeats 8000000 in
set_option maxRecDepth 100000 in
theorem big_parts.calls (a0 : ByteArray) (r1 : Bool) (r2 : ByteArray) (w : World) (h : big_parts.f a0 = some (r1, r2)) :
  Calls Tryd.prog 77 #[.string a0] w fun e w' => e = .returned (.tuple #[.bool r1, .string r2]) ∧ Drawn0 w w' := by
 have H : ((strings_CutPrefix.f a0 (⟨#[45]⟩ : ByteArray)).bind fun bt124 => (some (bt124.2, bt124.1))) = some (r1, r2) := h
 clear h
 replace H := Option.bind_eq_some_iff.mp H
 obtain ⟨⟨t124, t125⟩, A20, H⟩ := H
 replace H : (some (t125, t124)) = some (r1, r2) := H
 have A2 := AM A20
 clear A20
 simp only [Option.some.injEq, Prod.mk.injEq] at H
 obtain ⟨rfl, rfl⟩ := H
 go_enter Tryd.func77, Tryd.ntmps77
 go_wp2_with (first | ((with_reducible refine gate_callee (f := 96) rfl ?_); refine goesL_ (some 8) rfl rfl Tryd.func96 (by kernel_rfl) rfl #[.string a0, .string (⟨#[45]⟩ : ByteArray)] rfl am ?_; (with_reducible refine (strings_CutPrefix.calls a0 (⟨#[45]⟩ : ByteArray) t124 t125 _ A2.out).mono ?_); rintro e w' ⟨rfl, ⟨nd, rfl⟩⟩; refine ⟨_, rfl, ?_⟩))
 go_ret2
 exact ⟨by first | rfl | (simp; done) | (simp [*]; done) | (simp [wrap64]; done) | (simp; (generalize ByteArray.toList _ = z_); cases z_ <;> first | rfl | simp), by repeat (first | exact Drawn0.refl _ | apply Drawn0.step)⟩

/-! ### big_Good: function 47 -/
def big_Good.f (k : Nat) (a0 : ByteArray) : Option (Bool) := (big_parts.f a0).bind fun bt126 => ((big_digits.f k bt126.2).bind fun t128 => (if t128 = true then (if 0 < (bt126.2.size : Int) then (if (bt bt126.2 0) = 48 then (if bt126.2.toList = ([48] : List UInt8) then (some (!bt126.1)) else (some false)) else (some true)) else (none)) else (some false)))
theorem big_Good.mono : ∀ a0 k, LeO (big_Good.f k a0) (big_Good.f (k + 1) a0) := by
 intro a0 k
 unfold big_Good.f
 repeat' first | (with_reducible exact big_digits.mono _ _) | (with_reducible exact LeO.refl _) | (with_reducible exact LeO.none _) | (with_reducible refine LeO.ite ?_ ?_) | (with_reducible refine LeO.bind ?_ (fun _ => ?_)) | exact big_digits.mono _ _ | exact LeO.none _ | refine LeO.ite ?_ ?_ | refine LeO.bind ?_ (fun _ => ?_)
set_option maxHeartbeats 8000000 in
set_option maxRecDepth 100000 in
theorem big_Good.calls (k : Nat) (a0 : ByteArray) (r : Bool) (w : World) (h : big_Good.f k a0 = some r) :
  Calls Tryd.prog 47 #[.string a0] w fun e w' => e = .returned (.bool r) ∧ Drawn0 w w' := by
 have H : ((big_parts.f a0).bind fun bt126 => ((big_digits.f k bt126.2).bind fun t128 => (if t128 = true then (if 0 < (bt126.2.size : Int) then (if (bt bt126.2 0) = 48 then (if bt126.2.toList = ([48] : List UInt8) then (some (!bt126.1)) else (some false)) else (some true)) else (none)) else (some false)))) = some r := h
 clear h
 replace H := Option.bind_eq_some_iff.mp H
 obtain ⟨⟨t126, t127⟩, A20, H⟩ := H
 replace H : ((big_digits.f k t127).bind fun t128 => (if t128 = true then (if 0 < (t127.size : Int) then (if (bt t127 0) = 48 then (if t127.toList = ([48] : List UInt8) then (some (!t126)) else (some false)) else (some true)) else (none)) else (some false))) = some r := H
 have A2 := AM A20
 clear A20
 replace H := Option.bind_eq_some_iff.mp H
 obtain ⟨t128, A30, H⟩ := H
 replace H : (if t128 = true then (if 0 < (t127.size : Int) then (if (bt t127 0) = 48 then (if t127.toList = ([48] : List UInt8) then (some (!t126)) else (some false)) else (some true)) else (none)) else (some false)) = some r := H
 have A3 := AM A30
 clear A30
 by_cases c4 : t128 = true
 ·subst c4
  have H1 : (if 0 < (t127.size : Int) then (if (bt t127 0) = 48 then (if t127.toList = ([48] : List UInt8) then (some (!t126)) else (some false)) else (some true)) else (none)) = some r := by rw [if_pos rfl] at H; exact H
  clear H
  have H := H1
  clear H1
  by_cases c5 : 0 < (t127.size : Int)
  ·rw [if_pos c5] at H
   have c5b0 : decide (0 < (t127.size : Int)) = true := decide_eq_true c5
   have c5b1 : decide (0 < t127.size) = true := decide_eq_true (by omega)
   clear c5
   by_cases c7 : (bt t127 0) = 48
   ·rw [if_pos c7] at H
    have c7b0 : ((bt t127 0) == 48) = true := beq_iff_eq.mpr c7; have c7b1 : ((bt t127 0) != 48) = false := bne_eq_false_iff_eq.mpr c7; clear c7; by_cases c8 : t127.toList = ([48] : List UInt8)
    ·rw [if_pos c8] at H
     have c8b0 : (t127.toList == ([48] : List UInt8)) = true := beq_iff_eq.mpr c8; have c8b1 : (t127.toList != ([48] : List UInt8)) = false := bne_eq_false_iff_eq.mpr c8; clear c8; obtain rfl := Option.some.inj H; go_enter Tryd.func47, Tryd.ntmps47; go_wp2_with (first | ((with_reducible refine gate_callee (f := 77) rfl ?_); refine goesL_ (some 7) rfl rfl Tryd.func77 (by kernel_rfl) rfl #[.string a0] rfl am ?_; (with_reducible refine (big_parts.calls a0 t126 t127 _ A2.out).mono ?_); rintro e w' ⟨rfl, ⟨nd, rfl⟩⟩; refine ⟨_, rfl, ?_⟩) | ((with_reducible refine gate_callee (f := 44) rfl ?_); refine goesL_ (some 11) rfl rfl Tryd.func44 (by kernel_rfl) rfl #[.string t127] rfl am ?_; (with_reducible refine (big_digits.calls k t127 true _ A3.out).mono ?_); rintro e w' ⟨rfl, ⟨nd, rfl⟩⟩; refine ⟨_, rfl, ?_⟩; have p6 : 0 ≤ (0 : Int) := (by omega); have q6 : 0 < t127.size := (by have : (0 : Int) < (t127.size : Int) := od; omega); have hx6 : ∀ h : 0 < t127.size, ((t127[0]'h).toNat : Int) = bt t127 0 := bt_at t127 0; clear p6; have qi6 : (0 < (t127.size : Int)) = True := eq_true (od); replace q6 := eq_true q6)); go_ret
     exact ⟨by first | rfl | (simp; done) | (simp [*]; done) | (simp [wrap64]; done) | (simp; (generalize ByteArray.toList _ = z_); cases z_ <;> first | rfl | simp), by repeat (first | exact Drawn0.refl _ | apply Drawn0.step)⟩
    ·rw [if_neg c8] at H
     have c8b0 : (t127.toList == ([48] : List UInt8)) = false := beq_eq_false_iff_ne.mpr c8; have c8b1 : (t127.toList != ([48] : List UInt8)) = true := bne_iff_ne.mpr c8; obtain rfl := Option.some.inj H; go_enter Tryd.func47, Tryd.ntmps47; go_wp2_with (first | ((with_reducible refine gate_callee (f := 77) rfl ?_); refine goesL_ (some 7) rfl rfl Tryd.func77 (by kernel_rfl) rfl #[.string a0] rfl am ?_; (with_reducible refine (big_parts.calls a0 t126 t127 _ A2.out).mono ?_); rintro e w' ⟨rfl, ⟨nd, rfl⟩⟩; refine ⟨_, rfl, ?_⟩) | ((with_reducible refine gate_callee (f := 44) rfl ?_); refine goesL_ (some 11) rfl rfl Tryd.func44 (by kernel_rfl) rfl #[.string t127] rfl am ?_; (with_reducible refine (big_digits.calls k t127 true _ A3.out).mono ?_); rintro e w' ⟨rfl, ⟨nd, rfl⟩⟩; refine ⟨_, rfl, ?_⟩; have p6 : 0 ≤ (0 : Int) := (by omega); have q6 : 0 < t127.size := (by have : (0 : Int) < (t127.size : Int) := od; omega); have hx6 : ∀ h : 0 < t127.size, ((t127[0]'h).toNat : Int) = bt t127 0 := bt_at t127 0; clear p6; have qi6 : (0 < (t127.size : Int)) = True := eq_true (od); replace q6 := eq_true q6)); go_ret
     exact ⟨by first | rfl | (simp; done) | (simp [*]; done) | (simp [wrap64]; done) | (simp; (generalize ByteArray.toList _ = z_); cases z_ <;> first | rfl | simp), by repeat (first | exact Drawn0.refl _ | apply Drawn0.step)⟩
   ·rw [if_neg c7] at H
    have c7b0 : ((bt t127 0) == 48) = false := beq_eq_false_iff_ne.mpr c7; have c7b1 : ((bt t127 0) != 48) = true := bne_iff_ne.mpr c7; obtain rfl := Option.some.inj H; go_enter Tryd.func47, Tryd.ntmps47; go_wp2_with (first | ((with_reducible refine gate_callee (f := 77) rfl ?_); refine goesL_ (some 7) rfl rfl Tryd.func77 (by kernel_rfl) rfl #[.string a0] rfl am ?_; (with_reducible refine (big_parts.calls a0 t126 t127 _ A2.out).mono ?_); rintro e w' ⟨rfl, ⟨nd, rfl⟩⟩; refine ⟨_, rfl, ?_⟩) | ((with_reducible refine gate_callee (f := 44) rfl ?_); refine goesL_ (some 11) rfl rfl Tryd.func44 (by kernel_rfl) rfl #[.string t127] rfl am ?_; (with_reducible refine (big_digits.calls k t127 true _ A3.out).mono ?_); rintro e w' ⟨rfl, ⟨nd, rfl⟩⟩; refine ⟨_, rfl, ?_⟩; have p6 : 0 ≤ (0 : Int) := (by omega); have q6 : 0 < t127.size := (by have : (0 : Int) < (t127.size : Int) := od; omega); have hx6 : ∀ h : 0 < t127.size, ((t127[0]'h).toNat : Int) = bt t127 0 := bt_at t127 0; clear p6; have qi6 : (0 < (t127.size : Int)) = True := eq_true (od); replace q6 := eq_true q6)); go_ret
    exact ⟨by first | rfl | (simp; done) | (simp [*]; done) | (simp [wrap64]; done) | (simp; (generalize ByteArray.toList _ = z_); cases z_ <;> first | rfl | simp), by repeat (first | exact Drawn0.refl _ | apply Drawn0.step)⟩
  ·rw [if_neg c5] at H
   exact absurd H (by simp)
 ·replace c4 := Bool.eq_false_iff.mpr c4
  subst c4
  have H1 : (some false) = some r := by rw [if_neg (show ¬ (false = true) by decide)] at H; exact H
  clear H
  have H := H1
  clear H1
  obtain rfl := Option.some.inj H
  go_enter Tryd.func47, Tryd.ntmps47
  go_wp2_with (first | ((with_reducible refine gate_callee (f := 77) rfl ?_); refine goesL_ (some 7) rfl rfl Tryd.func77 (by kernel_rfl) rfl #[.string a0] rfl am ?_; (with_reducible refine (big_parts.calls a0 t126 t127 _ A2.out).mono ?_); rintro e w' ⟨rfl, ⟨nd, rfl⟩⟩; refine ⟨_, rfl, ?_⟩) | ((with_reducible refine gate_callee (f := 44) rfl ?_); refine goesL_ (some 11) rfl rfl Tryd.func44 (by kernel_rfl) rfl #[.string t127] rfl am ?_; (with_reducible refine (big_digits.calls k t127 false _ A3.out).mono ?_); rintro e w' ⟨rfl, ⟨nd, rfl⟩⟩; refine ⟨_, rfl, ?_⟩))
  go_ret
  exact ⟨by first | rfl | (simp; done) | (simp [*]; done) | (simp [wrap64]; done) | (simp; (generalize ByteArray.toList _ = z_); cases z_ <;> first | rfl | simp), by repeat (first | exact Drawn0.refl _ | apply Drawn0.step)⟩

/-! ### dec_digits: function 60 -/
def dec_digits.f (a0 : ByteArray) : Option (Bool) := (strings_Trim.f a0 (⟨#[48, 49, 50, 51, 52, 53, 54, 55, 56, 57]⟩ : ByteArray)).bind fun t129 => (some (t129.toList == ([] : List UInt8)))
set_option maxHeartbeats 8000000 in
set_option maxRecDepth 100000 in
theorem dec_digits.calls (a0 : ByteArray) (r : Bool) (w : World) (h : dec_digits.f a0 = some r) :
  Calls Tryd.prog 60 #[.string a0] w fun e w' => e = .returned (.bool r) ∧ Below w.heap.size w w' := by
 have HB := AM (Below.refl w.heap.size w)
 have H : ((strings_Trim.f a0 (⟨#[48, 49, 50, 51, 52, 53, 54, 55, 56, 57]⟩ : ByteArray)).bind fun t129 => (some (t129.toList == ([] : List UInt8)))) = some r := h
 clear h
 replace H := Option.bind_eq_some_iff.mp H
 obtain ⟨t129, A20, H⟩ := H
 replace H : (some (t129.toList == ([] : List UInt8))) = some r := H
 have A2 := AM A20
 clear A20
 obtain rfl := Option.some.inj H
 go_enter Tryd.func60, Tryd.ntmps60
 go_wp2_with (first | ((with_reducible refine gate_callee (f := 59) rfl ?_); refine goesL_ (some 4) rfl rfl Tryd.func59 (by kernel_rfl) rfl #[.string a0, .string (⟨#[48, 49, 50, 51, 52, 53, 54, 55, 56, 57]⟩ : ByteArray)] rfl am ?_; (with_reducible refine (strings_Trim.calls a0 (⟨#[48, 49, 50, 51, 52, 53, 54, 55, 56, 57]⟩ : ByteArray) t129 _ A2.out).mono ?_); rintro e w3 ⟨rfl, hb⟩; refine ⟨_, rfl, ?_⟩; replace HB := AM (below_step bl hb); (try clear hb)))
 go_ret
 exact ⟨by first | rfl | (simp [errW_none, errW_some] <;> rfl) | (simp [*, errW_none, errW_some] <;> rfl) | ((generalize ByteArray.toList _ = z_); cases z_ <;> first | rfl | (simp; done)), bl⟩

/-! ### strings_TrimRight: function 61 -/

def strings_TrimRight.f (a0 : ByteArray) (a1 : ByteArray) : Option (ByteArray) := if a1.data.toList.all (fun b => decide (b.toNat < 128)) = true ∧ a1.size < 1000 ∧ a0.size ≤ 9223372036854775807 then some ⟨(Lib.trimRightS a0.data.toList a1.data.toList).toArray⟩ else none
theorem strings_TrimRight.calls (a0 : ByteArray) (a1 : ByteArray) (r : ByteArray) (w : World) (h : strings_TrimRight.f a0 a1 = some r) :
  Calls Tryd.prog 61 #[.string a0, .string a1] w fun e w' => e = .returned (.string r) ∧ Below w.heap.size w w' := by
 unfold strings_TrimRight.f at h
 split at h
 ·rename_i hc
  obtain ⟨h1, h2, h3⟩ := hc
  obtain rfl := Option.some.inj h
  refine (Any.strings_TrimRight_laid Tryd.lays162 (by kernel_rfl) a0 a1 w h3 (by omega) (fun j b hb => ?_)).mono fun e w' hh => hh
  exact of_decide_eq_true (List.all_eq_true.1 h1 b (List.mem_of_getElem? hb))
 ·cases h

/-! ### big_times: function 42 -/

def big_times.f (k : Nat) (a0 : ByteArray) (a1 : Int) (a2 : Int) : Option (ByteArray) := if (a0.data.toList.all fun x => decide (48 ≤ x.toNat ∧ x.toNat ≤ 57)) = true ∧ a0.size ≤ 1000000 ∧ 0 ≤ a1 ∧ a1 ≤ 1099511627776 ∧ 0 ≤ a2 ∧ a2 ≤ 1099511627776 then big_Norm.f k false ⟨(Go.Proofs.YtkijneohhilboaaDoor.Room.timesL a1 a2 a0.data.toList).toArray⟩ else none
theorem big_times.mono : ∀ a0 a1 a2 k, LeO (big_times.f k a0 a1 a2) (big_times.f (k + 1) a0 a1 a2) := by
 intro a0 a1 a2 k
 unfold big_times.f
 exact LeO.ite (big_Norm.mono _ _ _) (LeO.none _)
theorem big_times.calls (k : Nat) (a0 : ByteArray) (a1 : Int) (a2 : Int) (r : ByteArray) (w : World) (hG : Go.Proofs.YtkijneohhilboaaDoor.POT.Tabs w) (h : big_times.f k a0 a1 a2 = some r) :
  Calls Tryd.prog 42 #[.string a0, .int .i64 a1, .int .i64 a2] w fun e w' => e = .returned (.string r) ∧ Below w.heap.size w w' := by
 unfold big_times.f at h
 split at h
 ·rename_i hc
  obtain ⟨h1, h2, h3, h4, h5, h6⟩ := hc
  exact Go.Proofs.YtkijneohhilboaaDoor.Room.times_calls a0 (fun x hx => of_decide_eq_true (p := 48 ≤ x.toNat ∧ x.toNat ≤ 57) (List.all_eq_true.1 h1 x hx)) h2 a1 a2 h3 h4 h5 h6 r w hG.pow (fun W => big_Norm.calls k false _ r W h)
 ·cases h

/-! ### strconv_Itoa: function 84 -/

def strconv_Itoa.f (a0 : Int) : Option (ByteArray) := if -9223372036854775808 ≤ a0 ∧ a0 ≤ 9223372036854775807 then some ⟨(Lib.itoa a0).toArray⟩ else none
theorem strconv_Itoa.calls (a0 : Int) (r : ByteArray) (w : World) (hG : Go.Proofs.YtkijneohhilboaaDoor.POT.Tabs w) (h : strconv_Itoa.f a0 = some r) :
  Calls Tryd.prog 84 #[.int .i64 a0] w fun e w' => e = .returned (.string r) ∧ Below w.heap.size w w' := by
 unfold strconv_Itoa.f at h
 split at h
 ·rename_i hc
  obtain rfl := Option.some.inj h
  refine (Tryd.strconv_Itoa a0 hc.1 hc.2 w (Lib.TabBelow.here hG.pow)).mono ?_
  rintro e w' ⟨rfl, k, os, rfl⟩
  exact ⟨rfl, Lib.below_grow w.heap.size w (Nat.le_refl _) k os⟩
 ·cases h

/-! ### strings_Compare: function 99 -/

def strings_Compare.f (a0 : ByteArray) (a1 : ByteArray) : Option (Int) := some (Lib.compareBytes a0.data.toList a1.data.toList)
theorem strings_Compare.calls (a0 : ByteArray) (a1 : ByteArray) (r : Int) (w : World) (h : strings_Compare.f a0 a1 = some r) :
  Calls Tryd.prog 99 #[.string a0, .string a1] w fun e w' => e = .returned (.int .i64 r) ∧ Below w.heap.size w w' := by
 unfold strings_Compare.f at h
 obtain rfl := Option.some.inj h
 refine (Tryd.strings_Compare a0 a1 w).mono ?_
 rintro e w' ⟨rfl, rfl⟩
 exact ⟨rfl, Below.refl _ _⟩

/-! ### big_above: function 85 -/
def big_above.f (a0 : ByteArray) (a1 : ByteArray) : Option (Int) := if (a0.size : Int) = (a1.size : Int) then ((strings_Compare.f a0 a1).bind fun t130 => (some t130)) else (if (a0.size : Int) < (a1.size : Int) then (some (-1)) else (some 1))
set_option maxHeartbeats 8000000 in
set_option maxRecDepth 100000 in
theorem big_above.calls (a0 : ByteArray) (a1 : ByteArray) (r : Int) (w : World) (h : big_above.f a0 a1 = some r) :
  Calls Tryd.prog 85 #[.string a0, .string a1] w fun e w' => e = .returned (.int .i64 r) ∧ Below w.heap.size w w' := by
 have HB := AM (Below.refl w.heap.size w)
 have H : (if (a0.size : Int) = (a1.size : Int) then ((strings_Compare.f a0 a1).bind fun t130 => (some t130)) else (if (a0.size : Int) < (a1.size : Int) then (some (-1)) else (some 1))) = some r := h
 clear h
 by_cases c3 : (a0.size : Int) = (a1.size : Int)
 ·rw [if_pos c3] at H
  have c3b0 : ((a0.size : Int) == (a1.size : Int)) = true := beq_iff_eq.mpr c3
  have c3b1 : ((a0.size : Int) != (a1.size : Int)) = false := bne_eq_false_iff_eq.mpr c3
  have c3b2 : (a0.size == a1.size) = true := by first | simpa using c3 | (simp at c3 ⊢; omega)
  clear c3
  replace H := Option.bind_eq_some_iff.mp H
  obtain ⟨t130, A40, H⟩ := H
  replace H : (some t130) = some r := H
  have A4 := AM A40
  clear A40
  obtain rfl := Option.some.inj H
  go_enter Tryd.func85, Tryd.ntmps85
  go_wp2_with (first | ((with_reducible refine gate_callee (f := 99) rfl ?_); refine goesL_ (some 17) rfl rfl Tryd.func99 (by kernel_rfl) rfl #[.string a0, .string a1] rfl am ?_; (with_reducible refine (strings_Compare.calls a0 a1 t130 _ A4.out).mono ?_); rintro e w5 ⟨rfl, hb⟩; refine ⟨_, rfl, ?_⟩; replace HB := AM (below_step bl hb); (try clear hb)))
  go_ret
  exact ⟨by first | rfl | (simp [errW_none, errW_some] <;> rfl) | (simp [*, errW_none, errW_some] <;> rfl) | ((generalize ByteArray.toList _ = z_); cases z_ <;> first | rfl | (simp; done)), bl⟩
 ·rw [if_neg c3] at H
  have c3b0 : ((a0.size : Int) == (a1.size : Int)) = false := beq_eq_false_iff_ne.mpr c3
  have c3b1 : ((a0.size : Int) != (a1.size : Int)) = true := bne_iff_ne.mpr c3
  have c3b2 : (a0.size == a1.size) = false := by first | simpa using c3 | (simp at c3 ⊢; omega)
  by_cases c6 : (a0.size : Int) < (a1.size : Int)
  ·rw [if_pos c6] at H
   have c6b0 : decide ((a0.size : Int) < (a1.size : Int)) = true := decide_eq_true c6
   have c6b1 : decide (a0.size < a1.size) = true := decide_eq_true (Int.ofNat_lt.mp c6)
   clear c6
   obtain rfl := Option.some.inj H
   go_enter Tryd.func85, Tryd.ntmps85
   go_wp2
   go_ret
   exact ⟨by first | rfl | (simp [errW_none, errW_some] <;> rfl) | (simp [*, errW_none, errW_some] <;> rfl) | ((generalize ByteArray.toList _ = z_); cases z_ <;> first | rfl | (simp; done)), bl⟩
  ·rw [if_neg c6] at H
   have c6b0 : decide ((a0.size : Int) < (a1.size : Int)) = false := decide_eq_false c6
   have c6b1 : decide (a0.size < a1.size) = false := decide_eq_false (fun h => c6 (Int.ofNat_lt.mpr h))
   clear c6
   obtain rfl := Option.some.inj H
   go_enter Tryd.func85, Tryd.ntmps85
   go_wp2
   go_ret
   exact ⟨by first | rfl | (simp [errW_none, errW_some] <;> rfl) | (simp [*, errW_none, errW_some] <;> rfl) | ((generalize ByteArray.toList _ = z_); cases z_ <;> first | rfl | (simp; done)), bl⟩

/-! ### big_less: function 86 -/

def big_less.f (a0 : ByteArray) (a1 : ByteArray) : Option (ByteArray) := if (a0.data.toList.all fun x => decide (48 ≤ x.toNat ∧ x.toNat ≤ 57)) = true ∧ (a1.data.toList.all fun x => decide (48 ≤ x.toNat ∧ x.toNat ≤ 57)) = true ∧ a0.size ≤ 1000000 ∧ a1.size ≤ 1000000 then some ⟨(Go.Proofs.YtkijneohhilboaaDoor.Room.lesL a0.data.toList a1.data.toList).toArray⟩ else none
theorem big_less.calls (a0 : ByteArray) (a1 : ByteArray) (r : ByteArray) (w : World) (h : big_less.f a0 a1 = some r) :
  Calls Tryd.prog 86 #[.string a0, .string a1] w fun e w' => e = .returned (.string r) ∧ Below w.heap.size w w' := by
 unfold big_less.f at h
 split at h
 ·rename_i hc
  obtain ⟨h1, h2, h3, h4⟩ := hc
  obtain rfl := Option.some.inj h
  exact Go.Proofs.YtkijneohhilboaaDoor.Room.less_calls a0 a1 (fun x hx => of_decide_eq_true (p := 48 ≤ x.toNat ∧ x.toNat ≤ 57) (List.all_eq_true.1 h1 x hx)) (fun x hx => of_decide_eq_true (p := 48 ≤ x.toNat ∧ x.toNat ≤ 57) (List.all_eq_true.1 h2 x hx)) h3 h4 w
 ·cases h

/-! ### big_Add: function 62 -/
mutual
def big_Add.j0 : Nat → ByteArray → Int → Bool → Option (ByteArray)
 | 0, _, _, _ => none
 | k + 1, x0, x1, x18 => if x18 = true then (some (⟨#[]⟩ : ByteArray)) else ((big_parts.f x0).bind fun bt132 => (if bt132.1 = true then (big_Add.j1 k (wrap64 (-x1)) bt132.1 bt132.2) else (big_Add.j1 k x1 bt132.1 bt132.2)))
def big_Add.j1 : Nat → Int → Bool → ByteArray → Option (ByteArray)
 | 0, _, _, _ => none
 | k + 1, x1, x5, x6 => if x1 ≥ 0 then ((big_times.f k x6 1 x1).bind fun t134 => ((big_Norm.f k x5 t134).bind fun t135 => (some t135))) else ((strconv_Itoa.f (wrap64 (-x1))).bind fun t136 => ((big_above.f x6 t136).bind fun t137 => (if t137 < 0 then ((big_less.f t136 x6).bind fun t138 => ((big_Norm.f k (!x5) t138).bind fun t139 => (some t139))) else ((big_less.f x6 t136).bind fun t140 => ((big_Norm.f k x5 t140).bind fun t141 => (some t141))))))
end
def big_Add.f (k : Nat) (a0 : ByteArray) (a1 : Int) : Option (ByteArray) := (big_Good.f k a0).bind fun t131 => (if t131 = true then (if a1 > 1099511627776 then (big_Add.j0 k a0 a1 true) else (big_Add.j0 k a0 a1 (decide (a1 < (-1099511627776))))) else (big_Add.j0 k a0 a1 true))
theorem big_Add.mono_l : ∀ k, (∀ y0 y1 y2, LeO (big_Add.j0 k y0 y1 y2) (big_Add.j0 (k + 1) y0 y1 y2)) ∧ (∀ y0 y1 y2, LeO (big_Add.j1 k y0 y1 y2) (big_Add.j1 (k + 1) y0 y1 y2))
 | 0 => ⟨fun _ _ _ r h => by simp [big_Add.j0] at h, fun _ _ _ r h => by simp [big_Add.j1] at h⟩
 | k + 1 => by
  obtain ⟨ih0, ih1⟩ := big_Add.mono_l k
  refine ⟨?_, ?_⟩
  ·intro y0 y1 y2
   unfold big_Add.j0
   repeat' first | (with_reducible exact ih0 _ _ _) | (with_reducible exact ih1 _ _ _) | (with_reducible exact big_Good.mono _ _) | (with_reducible exact big_Norm.mono _ _ _) | (with_reducible exact big_times.mono _ _ _ _) | (with_reducible exact LeO.refl _) | (with_reducible exact LeO.none _) | (with_reducible refine LeO.ite ?_ ?_) | (with_reducible refine LeO.bind ?_ (fun _ => ?_)) | exact ih0 _ _ _ | exact ih1 _ _ _ | exact big_Good.mono _ _ | exact big_Norm.mono _ _ _ | exact big_times.mono _ _ _ _ | exact LeO.none _ | refine LeO.ite ?_ ?_ | refine LeO.bind ?_ (fun _ => ?_)
  ·intro y0 y1 y2
   unfold big_Add.j1
   repeat' first | (with_reducible exact ih0 _ _ _) | (with_reducible exact ih1 _ _ _) | (with_reducible exact big_Good.mono _ _) | (with_reducible exact big_Norm.mono _ _ _) | (with_reducible exact big_times.mono _ _ _ _) | (with_reducible exact LeO.refl _) | (with_reducible exact LeO.none _) | (with_reducible refine LeO.ite ?_ ?_) | (with_reducible refine LeO.bind ?_ (fun _ => ?_)) | exact ih0 _ _ _ | exact ih1 _ _ _ | exact big_Good.mono _ _ | exact big_Norm.mono _ _ _ | exact big_times.mono _ _ _ _ | exact LeO.none _ | refine LeO.ite ?_ ?_ | refine LeO.bind ?_ (fun _ => ?_)
theorem big_Add.mono : ∀ a0 a1 k, LeO (big_Add.f k a0 a1) (big_Add.f (k + 1) a0 a1) := by
 intro a0 a1 k
 obtain ⟨ih0, ih1⟩ := big_Add.mono_l k
 unfold big_Add.f
 repeat' first | (with_reducible exact ih0 _ _ _) | (with_reducible exact ih1 _ _ _) | (with_reducible exact big_Good.mono _ _) | (with_reducible exact big_Norm.mono _ _ _) | (with_reducible exact big_times.mono _ _ _ _) | (with_reducible exact LeO.refl _) | (with_reducible exact LeO.none _) | (with_reducible refine LeO.ite ?_ ?_) | (with_reducible refine LeO.bind ?_ (fun _ => ?_)) | exact ih0 _ _ _ | exact ih1 _ _ _ | exact big_Good.mono _ _ | exact big_Norm.mono _ _ _ | exact big_times.mono _ _ _ _ | exact LeO.none _ | refine LeO.ite ?_ ?_ | refine LeO.bind ?_ (fun _ => ?_)
set_option maxHeartbeats 8000000 in
set_option maxRecDepth 100000 in
theorem big_Add.calls (k : Nat) (a0 : ByteArray) (a1 : Int) (r : ByteArray) (w : World) (hG : Go.Proofs.YtkijneohhilboaaDoor.POT.Tabs w) (h : big_Add.f k a0 a1 = some r) :
  Calls Tryd.prog 62 #[.string a0, .int .i64 a1] w fun e w' => e = .returned (.string r) ∧ Below w.heap.size w w' := by
 have HG := AM hG
 clear hG
 have HB := AM (Below.refl w.heap.size w)
 have H : ((big_Good.f k a0).bind fun t131 => (if t131 = true then (if a1 > 1099511627776 then (big_Add.j0 k a0 a1 true) else (big_Add.j0 k a0 a1 (decide (a1 < (-1099511627776))))) else (big_Add.j0 k a0 a1 true))) = some r := h
 clear h
 have HC3 := AM H
 clear H
 go_enter Tryd.func62, Tryd.ntmps62
 go_upto_region 1 with (fail)
 go_cut [18] (fun v18 wc => ∃ (kq : Nat) (x18_2 : Bool), v18 = .bool x18_2 ∧ Aside0 (big_Add.j0 kq a0 a1 x18_2 = some r) ∧ Aside0 (kq ≤ k) ∧ Aside0 (Below w.heap.size w wc))
 case first =>
  have H := HC3.out
  clear HC3
  replace H := Option.bind_eq_some_iff.mp H
  obtain ⟨t131, A40, H⟩ := H
  replace H : (if t131 = true then (if a1 > 1099511627776 then (big_Add.j0 k a0 a1 true) else (big_Add.j0 k a0 a1 (decide (a1 < (-1099511627776))))) else (big_Add.j0 k a0 a1 true)) = some r := H
  have A4 := AM A40
  clear A40
  by_cases c5 : t131 = true
  ·subst c5
   have H1 : (if a1 > 1099511627776 then (big_Add.j0 k a0 a1 true) else (big_Add.j0 k a0 a1 (decide (a1 < (-1099511627776))))) = some r := by rw [if_pos rfl] at H; exact H
   clear H
   have H := H1
   clear H1
   by_cases c6 : a1 > 1099511627776
   ·rw [if_pos c6] at H
    have c6b0 : decide (1099511627776 < a1) = true := decide_eq_true c6; clear c6; (first | rw [c6b0] | (simp only [qi, qj]; rw [c6b0]) | skip); have H' := AM H; clear H; go_wp2_with (first | ((with_reducible refine gate_callee (f := 47) rfl ?_); refine goesL_ (some 9) rfl rfl Tryd.func47 (by kernel_rfl) rfl #[.string a0] rfl am ?_; (with_reducible refine (big_Good.calls k a0 true _ A4.out).mono ?_); rintro e w' ⟨rfl, ⟨nd, rfl⟩⟩; refine ⟨_, rfl, ?_⟩)); go_meet
    case rel => exact ⟨_, (true), rq, H', ⟨by first | omega | exact Nat.le_refl _⟩, ⟨bl⟩⟩
   ·rw [if_neg c6] at H
    have c6b0 : decide (1099511627776 < a1) = false := decide_eq_false c6; clear c6; (first | rw [c6b0] | (simp only [qi, qj]; rw [c6b0]) | skip); have H' := AM H; clear H; go_wp2_with (first | ((with_reducible refine gate_callee (f := 47) rfl ?_); refine goesL_ (some 9) rfl rfl Tryd.func47 (by kernel_rfl) rfl #[.string a0] rfl am ?_; (with_reducible refine (big_Good.calls k a0 true _ A4.out).mono ?_); rintro e w' ⟨rfl, ⟨nd, rfl⟩⟩; refine ⟨_, rfl, ?_⟩)); go_meet
    case rel => exact ⟨_, (decide (a1 < (-1099511627776))), rq, H', ⟨by first | omega | exact Nat.le_refl _⟩, ⟨bl⟩⟩
  ·replace c5 := Bool.eq_false_iff.mpr c5
   subst c5
   have H1 : (big_Add.j0 k a0 a1 true) = some r := by rw [if_neg (show ¬ (false = true) by decide)] at H; exact H
   clear H
   have H := H1
   clear H1
   have H' := AM H
   clear H
   go_wp2_with (first | ((with_reducible refine gate_callee (f := 47) rfl ?_); refine goesL_ (some 9) rfl rfl Tryd.func47 (by kernel_rfl) rfl #[.string a0] rfl am ?_; (with_reducible refine (big_Good.calls k a0 false _ A4.out).mono ?_); rintro e w' ⟨rfl, ⟨nd, rfl⟩⟩; refine ⟨_, rfl, ?_⟩))
   go_meet
   case rel => exact ⟨_, (true), rq, H', ⟨by first | omega | exact Nat.le_refl _⟩, ⟨bl⟩⟩
 case rest =>
  clear HC3
  obtain ⟨kq, x18_2, rfl, HA, HJ2, HB⟩ := hcut
  cases kq with
  | zero => exact absurd HA.out (by simp [big_Add.j0])
  | succ kj2 =>
   have H := HA.out
   clear HA
   simp only [big_Add.j0] at H
   by_cases c7 : x18_2 = true
   ·subst c7
    have H1 : (some (⟨#[]⟩ : ByteArray)) = some r := by rw [if_pos rfl] at H; exact H
    clear H; have H := H1; clear H1; obtain rfl := Option.some.inj H; go_wp2; go_ret
    exact ⟨by first | rfl | (simp [errW_none, errW_some] <;> rfl) | (simp [*, errW_none, errW_some] <;> rfl) | ((generalize ByteArray.toList _ = z_); cases z_ <;> first | rfl | (simp; done)), bl⟩
   ·replace c7 := Bool.eq_false_iff.mpr c7
    subst c7; have H1 : ((big_parts.f a0).bind fun bt132 => (if bt132.1 = true then (big_Add.j1 kj2 (wrap64 (-a1)) bt132.1 bt132.2) else (big_Add.j1 kj2 a1 bt132.1 bt132.2))) = some r := by rw [if_neg (show ¬ (false = true) by decide)] at H; exact H
    clear H; have H := H1; clear H1; replace H := Option.bind_eq_some_iff.mp H; obtain ⟨⟨t132, t133⟩, A80, H⟩ := H; replace H : (if t132 = true then (big_Add.j1 kj2 (wrap64 (-a1)) t132 t133) else (big_Add.j1 kj2 a1 t132 t133)) = some r := H; have A8 := AM A80; clear A80; have HC9 := AM H; clear H; go_upto_if 24 with (first | ((with_reducible refine gate_callee (f := 77) rfl ?_); refine goesL_ (some 21) rfl rfl Tryd.func77 (by kernel_rfl) rfl #[.string a0] rfl am ?_; (with_reducible refine (big_parts.calls a0 t132 t133 _ A8.out).mono ?_); rintro e w' ⟨rfl, ⟨nd, rfl⟩⟩; refine ⟨_, rfl, ?_⟩))
    (try simp only [Act.put, qI, qz, qs]); go_cut [1] (fun v1 wc => ∃ (kq : Nat) (x1_8 : Int), v1 = .int .i64 x1_8 ∧ Aside0 (big_Add.j1 kq x1_8 t132 t133 = some r) ∧ Aside0 (kq ≤ kj2) ∧ Aside0 (Below w.heap.size w wc))
    case first =>
     have H := HC9.out; clear HC9; by_cases c10 : t132 = true
     ·subst c10
      have H1 : (big_Add.j1 kj2 (wrap64 (-a1)) true t133) = some r := by rw [if_pos rfl] at H; exact H
      clear H; have H := H1; clear H1; have H' := AM H; clear H; go_wp2; go_meet
      case rel => exact ⟨_, (wrap64 (-a1)), rq, H', ⟨by have := HJ2.out; first | omega | exact Nat.le_refl _⟩, ⟨bl⟩⟩
     ·replace c10 := Bool.eq_false_iff.mpr c10
      subst c10; have H1 : (big_Add.j1 kj2 a1 false t133) = some r := by rw [if_neg (show ¬ (false = true) by decide)] at H; exact H
      clear H; have H := H1; clear H1; have H' := AM H; clear H; go_wp2; go_meet
      case rel => exact ⟨_, (a1), rq, H', ⟨by have := HJ2.out; first | omega | exact Nat.le_refl _⟩, ⟨bl⟩⟩
    case rest =>
     clear HC9; try clear c7
     obtain ⟨kq, x1_8, rfl, HA, HJ8, HB⟩ := hcut; cases kq with
     | zero => exact absurd HA.out (by simp [big_Add.j1])
     | succ kj8 =>
      have H := HA.out; clear HA; simp only [big_Add.j1] at H; by_cases c11 : x1_8 ≥ 0
      ·rw [if_pos c11] at H
       have c11b0 : decide (0 ≤ x1_8) = true := decide_eq_true c11; clear c11; replace H := Option.bind_eq_some_iff.mp H; obtain ⟨t134, A120, H⟩ := H; replace H : ((big_Norm.f kj8 t132 t134).bind fun t135 => (some t135)) = some r := H; have A12 := AM A120; clear A120; replace H := Option.bind_eq_some_iff.mp H; obtain ⟨t135, A130, H⟩ := H; replace H : (some t135) = some r := H; have A13 := AM A130; clear A130; obtain rfl := Option.some.inj H; go_wp2_with (first | ((with_reducible refine gate_callee (f := 42) rfl ?_); refine goesL_ (some 32) rfl rfl Tryd.func42 (by kernel_rfl) rfl #[.string t133, .int .i64 1, .int .i64 x1_8] rfl am ?_; (with_reducible refine (big_times.calls kj8 t133 1 x1_8 t134 _ ?side1 A12.out).mono ?_); (case side1 => exact Go.Proofs.YtkijneohhilboaaDoor.POT.Tabs_below HG.out bl); rintro e w14 ⟨rfl, hb⟩; refine ⟨_, rfl, ?_⟩; replace HB := AM (below_step bl hb); (try clear hb)) | ((with_reducible refine gate_callee (f := 27) rfl ?_); refine goesL_ (some 33) rfl rfl Tryd.func27 (by kernel_rfl) rfl #[.bool t132, .string t134] rfl am ?_; (with_reducible refine (big_Norm.calls kj8 t132 t134 t135 _ A13.out).mono ?_); rintro e w15 ⟨rfl, hb⟩; refine ⟨_, rfl, ?_⟩; replace HB := AM (below_step bl hb); (try clear hb))); go_ret
       exact ⟨by first | rfl | (simp [errW_none, errW_some] <;> rfl) | (simp [*, errW_none, errW_some] <;> rfl) | ((generalize ByteArray.toList _ = z_); cases z_ <;> first | rfl | (simp; done)), bl⟩
      ·rw [if_neg c11] at H
       have c11b0 : decide (0 ≤ x1_8) = false := decide_eq_false c11; clear c11; replace H := Option.bind_eq_some_iff.mp H; obtain ⟨t136, A160, H⟩ := H; replace H : ((big_above.f t133 t136).bind fun t137 => (if t137 < 0 then ((big_less.f t136 t133).bind fun t138 => ((big_Norm.f kj8 (!t132) t138).bind fun t139 => (some t139))) else ((big_less.f t133 t136).bind fun t140 => ((big_Norm.f kj8 t132 t140).bind fun t141 => (some t141))))) = some r := H; have A16 := AM A160; clear A160; replace H := Option.bind_eq_some_iff.mp H; obtain ⟨t137, A170, H⟩ := H; replace H : (if t137 < 0 then ((big_less.f t136 t133).bind fun t138 => ((big_Norm.f kj8 (!t132) t138).bind fun t139 => (some t139))) else ((big_less.f t133 t136).bind fun t140 => ((big_Norm.f kj8 t132 t140).bind fun t141 => (some t141)))) = some r := H; have A17 := AM A170; clear A170; by_cases c18 : t137 < 0
       ·rw [if_pos c18] at H
        have c18b0 : decide (t137 < 0) = true := decide_eq_true c18; clear c18; replace H := Option.bind_eq_some_iff.mp H; obtain ⟨t138, A190, H⟩ := H; replace H : ((big_Norm.f kj8 (!t132) t138).bind fun t139 => (some t139)) = some r := H; have A19 := AM A190; clear A190; replace H := Option.bind_eq_some_iff.mp H; obtain ⟨t139, A200, H⟩ := H; replace H : (some t139) = some r := H; have A20 := AM A200; clear A200; obtain rfl := Option.some.inj H; go_wp2_with (first | ((with_reducible refine gate_callee (f := 84) rfl ?_); refine goesL_ (some 36) rfl rfl Tryd.func84 (by kernel_rfl) rfl #[.int .i64 (wrap64 (-x1_8))] rfl am ?_; (with_reducible refine (strconv_Itoa.calls (wrap64 (-x1_8)) t136 _ ?side1 A16.out).mono ?_); (case side1 => exact Go.Proofs.YtkijneohhilboaaDoor.POT.Tabs_below HG.out bl); rintro e w21 ⟨rfl, hb⟩; refine ⟨_, rfl, ?_⟩; replace HB := AM (below_step bl hb); (try clear hb)) | ((with_reducible refine gate_callee (f := 85) rfl ?_); refine goesL_ (some 39) rfl rfl Tryd.func85 (by kernel_rfl) rfl #[.string t133, .string t136] rfl am ?_; (with_reducible refine (big_above.calls t133 t136 t137 _ A17.out).mono ?_); rintro e w22 ⟨rfl, hb⟩; refine ⟨_, rfl, ?_⟩; replace HB := AM (below_step bl hb); (try clear hb)) | ((with_reducible refine gate_callee (f := 86) rfl ?_); refine goesL_ (some 45) rfl rfl Tryd.func86 (by kernel_rfl) rfl #[.string t136, .string t133] rfl am ?_; (with_reducible refine (big_less.calls t136 t133 t138 _ A19.out).mono ?_); rintro e w23 ⟨rfl, hb⟩; refine ⟨_, rfl, ?_⟩; replace HB := AM (below_step bl hb); (try clear hb)) | ((with_reducible refine gate_callee (f := 27) rfl ?_); refine goesL_ (some 46) rfl rfl Tryd.func27 (by kernel_rfl) rfl #[.bool (!t132), .string t138] rfl am ?_; (with_reducible refine (big_Norm.calls kj8 (!t132) t138 t139 _ A20.out).mono ?_); rintro e w24 ⟨rfl, hb⟩; refine ⟨_, rfl, ?_⟩; replace HB := AM (below_step bl hb); (try clear hb))); go_ret
        exact ⟨by first | rfl | (simp [errW_none, errW_some] <;> rfl) | (simp [*, errW_none, errW_some] <;> rfl) | ((generalize ByteArray.toList _ = z_); cases z_ <;> first | rfl | (simp; done)), bl⟩
       ·rw [if_neg c18] at H
        have c18b0 : decide (t137 < 0) = false := decide_eq_false c18; clear c18; replace H := Option.bind_eq_some_iff.mp H; obtain ⟨t140, A250, H⟩ := H; replace H : ((big_Norm.f kj8 t132 t140).bind fun t141 => (some t141)) = some r := H; have A25 := AM A250; clear A250; replace H := Option.bind_eq_some_iff.mp H; obtain ⟨t141, A260, H⟩ := H; replace H : (some t141) = some r := H; have A26 := AM A260; clear A260; obtain rfl := Option.some.inj H; go_wp2_with (first | ((with_reducible refine gate_callee (f := 84) rfl ?_); refine goesL_ (some 36) rfl rfl Tryd.func84 (by kernel_rfl) rfl #[.int .i64 (wrap64 (-x1_8))] rfl am ?_; (with_reducible refine (strconv_Itoa.calls (wrap64 (-x1_8)) t136 _ ?side1 A16.out).mono ?_); (case side1 => exact Go.Proofs.YtkijneohhilboaaDoor.POT.Tabs_below HG.out bl); rintro e w27 ⟨rfl, hb⟩; refine ⟨_, rfl, ?_⟩; replace HB := AM (below_step bl hb); (try clear hb)) | ((with_reducible refine gate_callee (f := 85) rfl ?_); refine goesL_ (some 39) rfl rfl Tryd.func85 (by kernel_rfl) rfl #[.string t133, .string t136] rfl am ?_; (with_reducible refine (big_above.calls t133 t136 t137 _ A17.out).mono ?_); rintro e w28 ⟨rfl, hb⟩; refine ⟨_, rfl, ?_⟩; replace HB := AM (below_step bl hb); (try clear hb)) | ((with_reducible refine gate_callee (f := 86) rfl ?_); refine goesL_ (some 50) rfl rfl Tryd.func86 (by kernel_rfl) rfl #[.string t133, .string t136] rfl am ?_; (with_reducible refine (big_less.calls t133 t136 t140 _ A25.out).mono ?_); rintro e w29 ⟨rfl, hb⟩; refine ⟨_, rfl, ?_⟩; replace HB := AM (below_step bl hb); (try clear hb)) | ((with_reducible refine gate_callee (f := 27) rfl ?_); refine goesL_ (some 51) rfl rfl Tryd.func27 (by kernel_rfl) rfl #[.bool t132, .string t140] rfl am ?_; (with_reducible refine (big_Norm.calls kj8 t132 t140 t141 _ A26.out).mono ?_); rintro e w30 ⟨rfl, hb⟩; refine ⟨_, rfl, ?_⟩; replace HB := AM (below_step bl hb); (try clear hb))); go_ret
        exact ⟨by first | rfl | (simp [errW_none, errW_some] <;> rfl) | (simp [*, errW_none, errW_some] <;> rfl) | ((generalize ByteArray.toList _ = z_); cases z_ <;> first | rfl | (simp; done)), bl⟩

/-! ### dec_nought: function 63 -/
def dec_nought.f (a0 : Bool) : Option (Int × Bool × ByteArray × ByteArray) := some (0, a0, (⟨#[48]⟩ : ByteArray), (⟨#[48]⟩ : ByteArray))
set_option maxHeartbeats 8000000 in
set_option maxRecDepth 100000 in
theorem dec_nought.calls (a0 : Bool) (r1 : Int) (r2 : Bool) (r3 : ByteArray) (r4 : ByteArray) (w : World) (h : dec_nought.f a0 = some (r1, r2, r3, r4)) :
  Calls Tryd.prog 63 #[.bool a0] w fun e w' => e = .returned (.agg #[.int .i64 r1, .bool r2, .string r3, .string r4]) ∧ Below w.heap.size w w' := by
 have hu43 := Tryd.underlying43
 have HB := AM (Below.refl w.heap.size w)
 have H : (some (0, a0, (⟨#[48]⟩ : ByteArray), (⟨#[48]⟩ : ByteArray))) = some (r1, r2, r3, r4) := h
 clear h
 simp only [Option.some.injEq, Prod.mk.injEq] at H
 obtain ⟨rfl, rfl, rfl, rfl⟩ := H
 go_enter Tryd.func63, Tryd.ntmps63
 go_wp2_with (first | ((with_reducible refine gate_dst (N := 2) rfl ?_); refine box_event ?hg (N := 2) ?hd (cs := #[.int .i64 0, .bool false, .string (⟨#[]⟩ : ByteArray), .string (⟨#[]⟩ : ByteArray)]) (t := 43) ?hr ?_; (case hd => rfl); (case hg => rfl); (case hr => first | (go_simp; done) | (go_simp; rfl)); intro gb142 hg w2 hbox hb; have GW142 := gq (w := w) hg; have GE142 := GW142; replace HB := AM (below_step bl hb); have BK142 := AM (hbox); clear hb hbox hg; obtain ⟨hcz3_0, hcz3_1, hcz3_2, hcz3_3, hfz3_0, hfz3_1, hfz3_2, hfz3_3⟩ := cz4 BK142.out))
 refine bodyPost_ret (results_cell_row rfl _ _ gb142 43 #[.int .i64 0, .bool a0, .string (⟨#[48]⟩ : ByteArray), .string (⟨#[48]⟩ : ByteArray)] (0, 0) _ rfl bk Tryd.underlying43 rfl (by kernel_rfl)) rfl ?_
 exact ⟨by first | rfl | (simp [errW_none, errW_some] <;> rfl) | (simp [*, errW_none, errW_some] <;> rfl) | ((generalize ByteArray.toList _ = z_); cases z_ <;> first | rfl | (simp; done)), bl⟩

/-! ### dec_Make: function 38 -/
def dec_Make.j0 : Nat → Bool → ByteArray → ByteArray → ByteArray → Bool → Option (Int × Bool × ByteArray × ByteArray × Bool)
 | 0, _, _, _, _, _ => none
 | k + 1, x0, x2, x3, x10, x26 => if x26 = true then (some (0, false, (⟨#[]⟩ : ByteArray), (⟨#[]⟩ : ByteArray), false)) else ((strings_TrimRight.f x10 (⟨#[48]⟩ : ByteArray)).bind fun t146 => ((big_Add.f k x3 (wrap64 ((wrap64 ((x10.size : Int) - (t146.size : Int))) - (x2.size : Int)))).bind fun t147 => ((strings_TrimLeft.f t146 (⟨#[48]⟩ : ByteArray)).bind fun t148 => (if t148.toList = ([] : List UInt8) then ((dec_nought.f x0).bind fun bt149 => (some (bt149.1, bt149.2.1, bt149.2.2.1, bt149.2.2.2, true))) else (some (0, x0, t148, t147, true))))))
def dec_Make.f (k : Nat) (a0 : Bool) (a1 : ByteArray) (a2 : ByteArray) (a3 : ByteArray) : Option (Int × Bool × ByteArray × ByteArray × Bool) := if a1.size + a2.size ≤ 9223372036854775807 then (if (a1 ++ a2).toList = ([] : List UInt8) then (dec_Make.j0 k a0 a2 a3 (a1 ++ a2) true) else ((dec_digits.f (a1 ++ a2)).bind fun t144 => (if t144 = true then ((big_Good.f k a3).bind fun t145 => (dec_Make.j0 k a0 a2 a3 (a1 ++ a2) (!t145))) else (dec_Make.j0 k a0 a2 a3 (a1 ++ a2) true)))) else (none)
theorem dec_Make.mono_l : ∀ k, (∀ y0 y1 y2 y3 y4, LeO (dec_Make.j0 k y0 y1 y2 y3 y4) (dec_Make.j0 (k + 1) y0 y1 y2 y3 y4))
 | 0 => fun _ _ _ _ _ r h => by simp [dec_Make.j0] at h
 | k + 1 => by
  have ih0 := dec_Make.mono_l k
  ·intro y0 y1 y2 y3 y4
   unfold dec_Make.j0
   repeat' first | (with_reducible exact ih0 _ _ _ _ _) | (with_reducible exact big_Add.mono _ _ _) | (with_reducible exact big_Good.mono _ _) | (with_reducible exact LeO.refl _) | (with_reducible exact LeO.none _) | (with_reducible refine LeO.ite ?_ ?_) | (with_reducible refine LeO.bind ?_ (fun _ => ?_)) | exact ih0 _ _ _ _ _ | exact big_Add.mono _ _ _ | exact big_Good.mono _ _ | exact LeO.none _ | refine LeO.ite ?_ ?_ | refine LeO.bind ?_ (fun _ => ?_)
theorem dec_Make.mono : ∀ a0 a1 a2 a3 k, LeO (dec_Make.f k a0 a1 a2 a3) (dec_Make.f (k + 1) a0 a1 a2 a3) := by
 intro a0 a1 a2 a3 k
 have ih0 := dec_Make.mono_l k
 unfold dec_Make.f
 repeat' first | (with_reducible exact ih0 _ _ _ _ _) | (with_reducible exact big_Add.mono _ _ _) | (with_reducible exact big_Good.mono _ _) | (with_reducible exact LeO.refl _) | (with_reducible exact LeO.none _) | (with_reducible refine LeO.ite ?_ ?_) | (with_reducible refine LeO.bind ?_ (fun _ => ?_)) | exact ih0 _ _ _ _ _ | exact big_Add.mono _ _ _ | exact big_Good.mono _ _ | exact LeO.none _ | refine LeO.ite ?_ ?_ | refine LeO.bind ?_ (fun _ => ?_)
set_option maxHeartbeats 8000000 in
set_option maxRecDepth 100000 in
theorem dec_Make.calls (k : Nat) (a0 : Bool) (a1 : ByteArray) (a2 : ByteArray) (a3 : ByteArray) (r1 : Int) (r2 : Bool) (r3 : ByteArray) (r4 : ByteArray) (r5 : Bool) (w : World) (hG : Go.Proofs.YtkijneohhilboaaDoor.POT.Tabs w) (h : dec_Make.f k a0 a1 a2 a3 = some (r1, r2, r3, r4, r5)) :
  Calls Tryd.prog 38 #[.bool a0, .string a1, .string a2, .string a3] w fun e w' => e = .returned (.tuple #[.agg #[.int .i64 r1, .bool r2, .string r3, .string r4], .bool r5]) ∧ Below w.heap.size w w' := by
 have hu43 := Tryd.underlying43
 have HG := AM hG
 clear hG
 have HB := AM (Below.refl w.heap.size w)
 have H : (if a1.size + a2.size ≤ 9223372036854775807 then (if (a1 ++ a2).toList = ([] : List UInt8) then (dec_Make.j0 k a0 a2 a3 (a1 ++ a2) true) else ((dec_digits.f (a1 ++ a2)).bind fun t144 => (if t144 = true then ((big_Good.f k a3).bind fun t145 => (dec_Make.j0 k a0 a2 a3 (a1 ++ a2) (!t145))) else (dec_Make.j0 k a0 a2 a3 (a1 ++ a2) true)))) else (none)) = some (r1, r2, r3, r4, r5) := h
 clear h
 by_cases c5 : a1.size + a2.size ≤ 9223372036854775807
 ·rw [if_pos c5] at H
  have c5b0 := eq_true c5
  have c5b1 : decide (a1.size + a2.size ≤ 9223372036854775807) = true := decide_eq_true c5
  try have c5b2 : (9223372036854775807 < a1.size + a2.size) = False := eq_false (Nat.not_lt.2 c5)
  have HC6 := AM H
  clear H
  go_enter Tryd.func38, Tryd.ntmps38
  go_upto_region 2 with (first | ((with_reducible refine gate_dst (N := 8) rfl ?_); refine box_event ?hg (N := 8) ?hd (cs := #[.int .i64 0, .bool false, .string (⟨#[]⟩ : ByteArray), .string (⟨#[]⟩ : ByteArray)]) (t := 43) ?hr ?_; (case hd => rfl); (case hg => rfl); (case hr => first | (go_simp; done) | (go_simp; rfl)); intro gb143 hg w7 hbox hb; have GW143 := gq (w := w) hg; have GE143 := GW143; replace HB := AM (below_step bl hb); have BK143 := AM (hbox); clear hb hbox hg))
  (try simp only [Act.put, qI, qz, qs])
  go_cut [26] (fun v26 wc => ∃ (kq : Nat) (x26_5 : Bool), v26 = .bool x26_5 ∧ Aside0 (dec_Make.j0 kq a0 a2 a3 (a1 ++ a2) x26_5 = some (r1, r2, r3, r4, r5)) ∧ Aside0 (kq ≤ k) ∧ Aside0 (wc.heap[gb143]? = some (.cells #[.int .i64 0, .bool false, .string (⟨#[]⟩ : ByteArray), .string (⟨#[]⟩ : ByteArray)] 43 (0, 0))) ∧ Aside0 (Below w.heap.size w wc))
  case first =>
   have H := HC6.out
   clear HC6
   by_cases c8 : (a1 ++ a2).toList = ([] : List UInt8)
   ·rw [if_pos c8] at H
    have c8b0 : ((a1 ++ a2).toList == ([] : List UInt8)) = true := beq_iff_eq.mpr c8; have c8b1 : ((a1 ++ a2).toList != ([] : List UInt8)) = false := bne_eq_false_iff_eq.mpr c8; clear c8; (first | rw [c8b0] | (simp only [qi, qj]; rw [c8b0]) | skip); have H' := AM H; clear H; go_wp2; go_meet
    case rel => exact ⟨_, (true), rq, H', ⟨by first | omega | exact Nat.le_refl _⟩, ⟨by (with_reducible repeat (first | refine vN ?_ _ | refine vD ?_ | refine vA ?_ _)); exact BK143.out⟩, ⟨bl⟩⟩
   ·rw [if_neg c8] at H
    have c8b0 : ((a1 ++ a2).toList == ([] : List UInt8)) = false := beq_eq_false_iff_ne.mpr c8; have c8b1 : ((a1 ++ a2).toList != ([] : List UInt8)) = true := bne_iff_ne.mpr c8; (first | rw [c8b0] | (simp only [qi, qj]; rw [c8b0]) | skip); replace H := Option.bind_eq_some_iff.mp H; obtain ⟨t144, A90, H⟩ := H; replace H : (if t144 = true then ((big_Good.f k a3).bind fun t145 => (dec_Make.j0 k a0 a2 a3 (a1 ++ a2) (!t145))) else (dec_Make.j0 k a0 a2 a3 (a1 ++ a2) true)) = some (r1, r2, r3, r4, r5) := H; have A9 := AM A90; clear A90; by_cases c10 : t144 = true
    ·subst c10
     have H1 : ((big_Good.f k a3).bind fun t145 => (dec_Make.j0 k a0 a2 a3 (a1 ++ a2) (!t145))) = some (r1, r2, r3, r4, r5) := by rw [if_pos rfl] at H; exact H
     clear H; have H := H1; clear H1; replace H := Option.bind_eq_some_iff.mp H; obtain ⟨t145, A110, H⟩ := H; replace H : (dec_Make.j0 k a0 a2 a3 (a1 ++ a2) (!t145)) = some (r1, r2, r3, r4, r5) := H; have A11 := AM A110; clear A110; have H' := AM H; clear H; go_wp2_with (first | (go_at_call 60; (try (rename_i hK_; simp only [List.append] at hK_)); (with_reducible refine (dec_digits.calls (a1 ++ a2) true _ A9.out).mono ?_); rintro e w12 ⟨rfl, hb⟩; replace BK143 := AM (blk_below (g := gb143) (o := .cells #[.int .i64 0, .bool false, .string (⟨#[]⟩ : ByteArray), .string (⟨#[]⟩ : ByteArray)] 43 (0, 0)) bk hb); replace HB := AM (below_step bl hb); (try clear hb)) | (go_at_call 47; (try (rename_i hK_; simp only [List.append] at hK_)); (with_reducible refine (big_Good.calls k a3 t145 _ A11.out).mono ?_); rintro e w' ⟨rfl, ⟨nd, rfl⟩⟩)); go_meet
     case rel => exact ⟨_, (!t145), rq, H', ⟨by first | omega | exact Nat.le_refl _⟩, ⟨by (with_reducible repeat (first | refine vN ?_ _ | refine vD ?_ | refine vA ?_ _)); exact BK143.out⟩, ⟨bl⟩⟩
    ·replace c10 := Bool.eq_false_iff.mpr c10
     subst c10; have H1 : (dec_Make.j0 k a0 a2 a3 (a1 ++ a2) true) = some (r1, r2, r3, r4, r5) := by rw [if_neg (show ¬ (false = true) by decide)] at H; exact H
     clear H; have H := H1; clear H1; have H' := AM H; clear H; go_wp2_with (first | (go_at_call 60; (try (rename_i hK_; simp only [List.append] at hK_)); (with_reducible refine (dec_digits.calls (a1 ++ a2) false _ A9.out).mono ?_); rintro e w13 ⟨rfl, hb⟩; replace BK143 := AM (blk_below (g := gb143) (o := .cells #[.int .i64 0, .bool false, .string (⟨#[]⟩ : ByteArray), .string (⟨#[]⟩ : ByteArray)] 43 (0, 0)) bk hb); replace HB := AM (below_step bl hb); (try clear hb))); go_meet
     case rel => exact ⟨_, (true), rq, H', ⟨by first | omega | exact Nat.le_refl _⟩, ⟨by (with_reducible repeat (first | refine vN ?_ _ | refine vD ?_ | refine vA ?_ _)); exact BK143.out⟩, ⟨bl⟩⟩
  case rest =>
   clear HC6
   try clear c5; try clear c5b0; try clear c5b1; try clear c5b2
   obtain ⟨kq, x26_5, rfl, HA, HJ5, BK143, HB⟩ := hcut
   cases kq with
   | zero => exact absurd HA.out (by simp [dec_Make.j0])
   | succ kj5 =>
    have H := HA.out; clear HA; simp only [dec_Make.j0] at H; by_cases c14 : x26_5 = true
    ·subst c14
     have H1 : (some (0, false, (⟨#[]⟩ : ByteArray), (⟨#[]⟩ : ByteArray), false)) = some (r1, r2, r3, r4, r5) := by rw [if_pos rfl] at H; exact H
     clear H; have H := H1; clear H1; simp only [Option.some.injEq, Prod.mk.injEq] at H; obtain ⟨rfl, rfl, rfl, rfl, rfl⟩ := H; obtain ⟨hcz15_0, hcz15_1, hcz15_2, hcz15_3, hfz15_0, hfz15_1, hfz15_2, hfz15_3⟩ := cz4 BK143.out; go_wp2; refine bodyPost_ret (results_ct rfl _ _ gb143 43 #[.int .i64 0, .bool false, .string (⟨#[]⟩ : ByteArray), .string (⟨#[]⟩ : ByteArray)] (0, 0) _ rfl bk Tryd.underlying43 rfl (by kernel_rfl)) rfl ?_
     exact ⟨by first | rfl | (simp [errW_none, errW_some] <;> rfl) | (simp [*, errW_none, errW_some] <;> rfl) | ((generalize ByteArray.toList _ = z_); cases z_ <;> first | rfl | (simp; done)), bl⟩
    ·replace c14 := Bool.eq_false_iff.mpr c14
     subst c14; have H1 : ((strings_TrimRight.f (a1 ++ a2) (⟨#[48]⟩ : ByteArray)).bind fun t146 => ((big_Add.f kj5 a3 (wrap64 ((wrap64 (((a1 ++ a2).size : Int) - (t146.size : Int))) - (a2.size : Int)))).bind fun t147 => ((strings_TrimLeft.f t146 (⟨#[48]⟩ : ByteArray)).bind fun t148 => (if t148.toList = ([] : List UInt8) then ((dec_nought.f a0).bind fun bt149 => (some (bt149.1, bt149.2.1, bt149.2.2.1, bt149.2.2.2, true))) else (some (0, a0, t148, t147, true)))))) = some (r1, r2, r3, r4, r5) := by rw [if_neg (show ¬ (false = true) by decide)] at H; exact H
     clear H; have H := H1; clear H1; replace H := Option.bind_eq_some_iff.mp H; obtain ⟨t146, A160, H⟩ := H; replace H : ((big_Add.f kj5 a3 (wrap64 ((wrap64 (((a1 ++ a2).size : Int) - (t146.size : Int))) - (a2.size : Int)))).bind fun t147 => ((strings_TrimLeft.f t146 (⟨#[48]⟩ : ByteArray)).bind fun t148 => (if t148.toList = ([] : List UInt8) then ((dec_nought.f a0).bind fun bt149 => (some (bt149.1, bt149.2.1, bt149.2.2.1, bt149.2.2.2, true))) else (some (0, a0, t148, t147, true))))) = some (r1, r2, r3, r4, r5) := H; have A16 := AM A160; clear A160; replace H := Option.bind_eq_some_iff.mp H; obtain ⟨t147, A170, H⟩ := H; replace H : ((strings_TrimLeft.f t146 (⟨#[48]⟩ : ByteArray)).bind fun t148 => (if t148.toList = ([] : List UInt8) then ((dec_nought.f a0).bind fun bt149 => (some (bt149.1, bt149.2.1, bt149.2.2.1, bt149.2.2.2, true))) else (some (0, a0, t148, t147, true)))) = some (r1, r2, r3, r4, r5) := H; have A17 := AM A170; try (have A17z := AM A17.out; rw [show wrap64 (((a1.size : Int) + (a2.size : Int)) - (t146.size : Int)) = ((a1.size : Int) + (a2.size : Int)) - (t146.size : Int) from by first | omega | (unfold wrap64; omega) | ((try have hc5_ := c5; try simp only [ByteArray.size_append] at hc5_); unfold wrap64; omega)] at A17z; rw [show wrap64 (((((a1.size : Int) + (a2.size : Int)) - (t146.size : Int))) - (a2.size : Int)) = ((((a1.size : Int) + (a2.size : Int)) - (t146.size : Int))) - (a2.size : Int) from by first | omega | (unfold wrap64; omega) | ((try have hc5_ := c5; try simp only [ByteArray.size_append] at hc5_); unfold wrap64; omega)] at A17z)
     (try simp only [ByteArray.size_append, Int.natCast_add] at A17); clear A170; replace H := Option.bind_eq_some_iff.mp H; obtain ⟨t148, A180, H⟩ := H; replace H : (if t148.toList = ([] : List UInt8) then ((dec_nought.f a0).bind fun bt149 => (some (bt149.1, bt149.2.1, bt149.2.2.1, bt149.2.2.2, true))) else (some (0, a0, t148, t147, true))) = some (r1, r2, r3, r4, r5) := H; have A18 := AM A180; clear A180; by_cases c19 : t148.toList = ([] : List UInt8)
     ·rw [if_pos c19] at H
      have c19b0 : (t148.toList == ([] : List UInt8)) = true := beq_iff_eq.mpr c19; have c19b1 : (t148.toList != ([] : List UInt8)) = false := bne_eq_false_iff_eq.mpr c19; clear c19; replace H := Option.bind_eq_some_iff.mp H; obtain ⟨⟨t149, t150, t151, t152⟩, A200, H⟩ := H; replace H : (some (t149, t150, t151, t152, true)) = some (r1, r2, r3, r4, r5) := H; have A20 := AM A200; clear A200; simp only [Option.some.injEq, Prod.mk.injEq] at H; obtain ⟨rfl, rfl, rfl, rfl, rfl⟩ := H
      go_wp2_with (first | ((with_reducible refine gate_callee (f := 61) rfl ?_); refine goesL_ (some 29) rfl rfl Tryd.func61 (by kernel_rfl) rfl #[.string (a1 ++ a2), .string (⟨#[48]⟩ : ByteArray)] rfl am ?_; (with_reducible refine (strings_TrimRight.calls (a1 ++ a2) (⟨#[48]⟩ : ByteArray) t146 _ A16.out).mono ?_); rintro e w21 ⟨rfl, hb⟩; refine ⟨_, rfl, ?_⟩; replace BK143 := AM (blk_below (g := gb143) (o := .cells #[.int .i64 0, .bool false, .string (⟨#[]⟩ : ByteArray), .string (⟨#[]⟩ : ByteArray)] 43 (0, 0)) bk hb); replace HB := AM (below_step bl hb); (try clear hb)) | ((with_reducible refine gate_callee (f := 62) rfl ?_); refine goesL_ (some 39) rfl rfl Tryd.func62 (by kernel_rfl) rfl #[.string a3, .int .i64 (wrap64 ((wrap64 (((a1.size : Int) + (a2.size : Int)) - (t146.size : Int))) - (a2.size : Int)))] rfl am ?_; (with_reducible refine (big_Add.calls kj5 a3 (wrap64 ((wrap64 (((a1.size : Int) + (a2.size : Int)) - (t146.size : Int))) - (a2.size : Int))) t147 _ ?side1 A17.out).mono ?_); (case side1 => exact Go.Proofs.YtkijneohhilboaaDoor.POT.Tabs_below HG.out bl); rintro e w22 ⟨rfl, hb⟩; refine ⟨_, rfl, ?_⟩; replace BK143 := AM (blk_below (g := gb143) (o := .cells #[.int .i64 0, .bool false, .string (⟨#[]⟩ : ByteArray), .string (⟨#[]⟩ : ByteArray)] 43 (0, 0)) bk hb); replace HB := AM (below_step bl hb); (try clear hb)) | ((with_reducible refine gate_callee (f := 62) rfl ?_); refine goesL_ (some 39) rfl rfl Tryd.func62 (by kernel_rfl) rfl #[.string a3, .int .i64 ((((((a1.size : Int) + (a2.size : Int)) - (t146.size : Int))) - (a2.size : Int)))] rfl am ?_; (with_reducible refine (big_Add.calls kj5 a3 ((((((a1.size : Int) + (a2.size : Int)) - (t146.size : Int))) - (a2.size : Int))) t147 _ ?side1 A17z.out).mono ?_); (case side1 => exact Go.Proofs.YtkijneohhilboaaDoor.POT.Tabs_below HG.out bl); rintro e w22 ⟨rfl, hb⟩; refine ⟨_, rfl, ?_⟩; replace BK143 := AM (blk_below (g := gb143) (o := .cells #[.int .i64 0, .bool false, .string (⟨#[]⟩ : ByteArray), .string (⟨#[]⟩ : ByteArray)] 43 (0, 0)) bk hb); replace HB := AM (below_step bl hb); (try clear hb)) | ((with_reducible refine gate_callee (f := 45) rfl ?_); refine goesL_ (some 41) rfl rfl Tryd.func45 (by kernel_rfl) rfl #[.string t146, .string (⟨#[48]⟩ : ByteArray)] rfl am ?_; (with_reducible refine (strings_TrimLeft.calls t146 (⟨#[48]⟩ : ByteArray) t148 _ A18.out).mono ?_); rintro e w23 ⟨rfl, hb⟩; refine ⟨_, rfl, ?_⟩; replace BK143 := AM (blk_below (g := gb143) (o := .cells #[.int .i64 0, .bool false, .string (⟨#[]⟩ : ByteArray), .string (⟨#[]⟩ : ByteArray)] 43 (0, 0)) bk hb); replace HB := AM (below_step bl hb); (try clear hb)) | ((with_reducible refine gate_callee (f := 63) rfl ?_); refine goesL_ (some 45) rfl rfl Tryd.func63 (by kernel_rfl) rfl #[.bool a0] rfl am ?_; (with_reducible refine (dec_nought.calls a0 t149 t150 t151 t152 _ A20.out).mono ?_); rintro e w24 ⟨rfl, hb⟩; refine ⟨_, rfl, ?_⟩; replace BK143 := AM (blk_below (g := gb143) (o := .cells #[.int .i64 0, .bool false, .string (⟨#[]⟩ : ByteArray), .string (⟨#[]⟩ : ByteArray)] 43 (0, 0)) bk hb); replace HB := AM (below_step bl hb); (try clear hb); obtain ⟨hcz25_0, hcz25_1, hcz25_2, hcz25_3, hfz25_0, hfz25_1, hfz25_2, hfz25_3⟩ := cz4 BK143.out))
      refine bodyPost_ret (results_ct rfl _ _ gb143 43 #[.int .i64 t149, .bool t150, .string t151, .string t152] (0, 0) _ rfl bk Tryd.underlying43 rfl (by kernel_rfl)) rfl ?_
      exact ⟨by first | rfl | (simp [errW_none, errW_some] <;> rfl) | (simp [*, errW_none, errW_some] <;> rfl) | ((generalize ByteArray.toList _ = z_); cases z_ <;> first | rfl | (simp; done)), bl⟩
     ·rw [if_neg c19] at H
      have c19b0 : (t148.toList == ([] : List UInt8)) = false := beq_eq_false_iff_ne.mpr c19; have c19b1 : (t148.toList != ([] : List UInt8)) = true := bne_iff_ne.mpr c19; simp only [Option.some.injEq, Prod.mk.injEq] at H; obtain ⟨rfl, rfl, rfl, rfl, rfl⟩ := H
      go_wp2_with (first | ((with_reducible refine gate_callee (f := 61) rfl ?_); refine goesL_ (some 29) rfl rfl Tryd.func61 (by kernel_rfl) rfl #[.string (a1 ++ a2), .string (⟨#[48]⟩ : ByteArray)] rfl am ?_; (with_reducible refine (strings_TrimRight.calls (a1 ++ a2) (⟨#[48]⟩ : ByteArray) t146 _ A16.out).mono ?_); rintro e w26 ⟨rfl, hb⟩; refine ⟨_, rfl, ?_⟩; replace BK143 := AM (blk_below (g := gb143) (o := .cells #[.int .i64 0, .bool false, .string (⟨#[]⟩ : ByteArray), .string (⟨#[]⟩ : ByteArray)] 43 (0, 0)) bk hb); replace HB := AM (below_step bl hb); (try clear hb)) | ((with_reducible refine gate_callee (f := 62) rfl ?_); refine goesL_ (some 39) rfl rfl Tryd.func62 (by kernel_rfl) rfl #[.string a3, .int .i64 (wrap64 ((wrap64 (((a1.size : Int) + (a2.size : Int)) - (t146.size : Int))) - (a2.size : Int)))] rfl am ?_; (with_reducible refine (big_Add.calls kj5 a3 (wrap64 ((wrap64 (((a1.size : Int) + (a2.size : Int)) - (t146.size : Int))) - (a2.size : Int))) t147 _ ?side1 A17.out).mono ?_); (case side1 => exact Go.Proofs.YtkijneohhilboaaDoor.POT.Tabs_below HG.out bl); rintro e w27 ⟨rfl, hb⟩; refine ⟨_, rfl, ?_⟩; replace BK143 := AM (blk_below (g := gb143) (o := .cells #[.int .i64 0, .bool false, .string (⟨#[]⟩ : ByteArray), .string (⟨#[]⟩ : ByteArray)] 43 (0, 0)) bk hb); replace HB := AM (below_step bl hb); (try clear hb)) | ((with_reducible refine gate_callee (f := 62) rfl ?_); refine goesL_ (some 39) rfl rfl Tryd.func62 (by kernel_rfl) rfl #[.string a3, .int .i64 ((((((a1.size : Int) + (a2.size : Int)) - (t146.size : Int))) - (a2.size : Int)))] rfl am ?_; (with_reducible refine (big_Add.calls kj5 a3 ((((((a1.size : Int) + (a2.size : Int)) - (t146.size : Int))) - (a2.size : Int))) t147 _ ?side1 A17z.out).mono ?_); (case side1 => exact Go.Proofs.YtkijneohhilboaaDoor.POT.Tabs_below HG.out bl); rintro e w27 ⟨rfl, hb⟩; refine ⟨_, rfl, ?_⟩; replace BK143 := AM (blk_below (g := gb143) (o := .cells #[.int .i64 0, .bool false, .string (⟨#[]⟩ : ByteArray), .string (⟨#[]⟩ : ByteArray)] 43 (0, 0)) bk hb); replace HB := AM (below_step bl hb); (try clear hb)) | ((with_reducible refine gate_callee (f := 45) rfl ?_); refine goesL_ (some 41) rfl rfl Tryd.func45 (by kernel_rfl) rfl #[.string t146, .string (⟨#[48]⟩ : ByteArray)] rfl am ?_; (with_reducible refine (strings_TrimLeft.calls t146 (⟨#[48]⟩ : ByteArray) t148 _ A18.out).mono ?_); rintro e w28 ⟨rfl, hb⟩; refine ⟨_, rfl, ?_⟩; replace BK143 := AM (blk_below (g := gb143) (o := .cells #[.int .i64 0, .bool false, .string (⟨#[]⟩ : ByteArray), .string (⟨#[]⟩ : ByteArray)] 43 (0, 0)) bk hb); replace HB := AM (below_step bl hb); (try clear hb); obtain ⟨hcz29_0, hcz29_1, hcz29_2, hcz29_3, hfz29_0, hfz29_1, hfz29_2, hfz29_3⟩ := cz4 BK143.out))
      refine bodyPost_ret (results_ct rfl _ _ gb143 43 #[.int .i64 0, .bool a0, .string t148, .string t147] (0, 0) _ rfl bk Tryd.underlying43 rfl (by kernel_rfl)) rfl ?_
      exact ⟨by first | rfl | (simp [errW_none, errW_some] <;> rfl) | (simp [*, errW_none, errW_some] <;> rfl) | ((generalize ByteArray.toList _ = z_); cases z_ <;> first | rfl | (simp; done)), bl⟩
 ·rw [if_neg c5] at H
  exact absurd H (by simp)

/-! ### strings_Split: function 26 -/

def strings_Split.f (a0 : ByteArray) (a1 : ByteArray) : Option (List ByteArray) := if a0.size < 4294967281 ∧ 1 ≤ a1.size ∧ (Lib.splitB a1 0 (Lib.countB a0 a1) a0).length = Lib.countB a0 a1 + 1 ∧ Lib.countB a0 a1 + 1 ≤ maxLen then some (Lib.splitB a1 0 (Lib.countB a0 a1) a0) else none
theorem strings_Split.calls (a0 : ByteArray) (a1 : ByteArray) (r : List ByteArray) (w : World) (hG : Go.Proofs.YtkijneohhilboaaDoor.POT.Tabs w) (h : strings_Split.f a0 a1 = some r) :
  Calls Tryd.prog 26 #[.string a0, .string a1] w fun e w' => ∃ v0_ : Value, e = .returned (v0_) ∧ Kd.R Kd.string 9 w' w.heap.size (fun _ => True) v0_ r ∧ Below w.heap.size w w' := by
 unfold strings_Split.f at h
 split at h
 ·rename_i hc
  obtain ⟨h1, h2, h3, h4⟩ := hc
  obtain rfl := Option.some.inj h
  obtain ⟨m, hm⟩ := hG.max
  refine (Tryd.strings_Split a0 a1 m w h1 hm h2).mono ?_
  rintro e w' ⟨rfl, rfl⟩
  refine ⟨_, rfl, Kd.R_of_own ⟨by rw [encs_length, Nat.mul_one], .inr ⟨w.heap.size, _, _, by rw [h3], Nat.le_refl _, heap_alloc_new w _, by rw [h3]; exact Nat.le_refl _, h4, by rw [List.size_toArray, List.length_map, h3, Nat.mul_one], ?_⟩⟩ (fun _ _ => trivial), wA (Below.refl _ _) _⟩
  rw [Nat.mul_one, List.take_of_length_le (by rw [List.toList_toArray, List.length_map]; exact Nat.le_refl _)]
  rfl
 ·cases h

end Go.Proofs.YtkijneohhilboaaDoor.PO
