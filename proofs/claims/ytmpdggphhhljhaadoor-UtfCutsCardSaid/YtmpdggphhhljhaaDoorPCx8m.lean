/- Written by this session's own program (xprint, made over the kit's print): Lean functions with the same answers as the Go functions, and the proofs of that. Not trusted: Lean checks it. -/
import Derived.Test.YtmpdggphhhljhaaDoorPCx0
import Derived.Test.YtmpdggphhhljhaaDoorPCx1
import Derived.Test.YtmpdggphhhljhaaDoorPCx4
import Derived.Test.YtmpdggphhhljhaaDoorPCx5
import Derived.Test.YtmpdggphhhljhaaDoorPCx7
import Derived.Test.YtmpdggphhhljhaaDoorXW
import Derived.Test.YtmpdggphhhljhaaDoorXW
namespace Go.Proofs.YtmpdggphhhljhaaDoor.PC
open Go.Proofs.YtmpdggphhhljhaaDoor.XW Go.RowKit Go.Proofs.YtmpdggphhhljhaaDoorW.PrintWords Go.Proofs.YtmpdggphhhljhaaDoorW.PrintLast Go.Proofs.YtmpdggphhhljhaaDoorW.PrintMore
attribute [local go_sem] max2_int min2_int max_two min_two max_three min_three max_four min_four   -- for this text's walks alone
set_option linter.unusedVariables false
set_option linter.unusedSimpArgs false

attribute [local go_sem high] eqA27
/-! ### targumlaw1_UtfCuts: function 6 -/
def targumlaw1_UtfCuts.f (k : Nat) (a0 : ByteArray) (a1 : Int) (a2 : Int) : Option (Bool) := (targumlaw1_known.f k).bind fun t202 => (if t202 = true then ((targumhelp_Few.f k a0 300).bind fun t203 => (if t203 = true then (if 3 + a0.size ≤ 9223372036854775807 then ((utf_Encode.f k (wrap64 (1 + (wrap64 (Int.tmod a1 5)))) ((⟨#[239, 187, 191]⟩ : ByteArray) ++ a0)).bind fun t204 => ((utf_Size.f k (wrap64 (1 + (wrap64 (Int.tmod a1 5)))) (⟨#[239, 187, 191]⟩ : ByteArray)).bind fun t207 => (if (t204.length : Int) < t207 then (some false) else ((targumhelp_Within.f a2 t207 (t204.length : Int)).bind fun t208 => (if 0 ≤ t208 then (if t208 ≤ (t204.length : Int) then ((utf_Decode.f k (t204.take (t208 : Int).toNat)).bind fun bt213 => (if bt213.2.2.2.1 = 0 then (if (bt213.2.2.1.size : Int) ≤ (a0.size : Int) then (if 0 ≤ (bt213.2.2.1.size : Int) then (if (a0.extract 0 ((bt213.2.2.1.size : Int) : Int).toNat).toList = bt213.2.2.1.toList then ((utf_Size.f k (wrap64 (1 + (wrap64 (Int.tmod a1 5)))) bt213.2.2.1).bind fun t220 => (some ((wrap64 (t207 + t220)) == t208))) else (some false)) else (none)) else (some false)) else (if bt213.2.2.2.1 = 10 then (if bt213.2.2.2.2 < t207 then (some false) else (if bt213.2.2.2.2 ≥ t208 then (some false) else (if (wrap64 (t208 - bt213.2.2.2.2)) > 3 then (some false) else (if 0 ≤ bt213.2.2.2.2 then (if bt213.2.2.2.2 ≤ (t204.length : Int) then ((utf_Decode.f k (t204.take (bt213.2.2.2.2 : Int).toNat)).bind fun bt225 => (if (bt213.1 == 0 && (bt213.2.1 == 0 && (bt213.2.2.1.toList == ([] : List UInt8)))) = true then (if bt225.2.2.2.1 = 0 then (if (bt225.2.2.1.size : Int) ≤ (a0.size : Int) then (if 0 ≤ (bt225.2.2.1.size : Int) then (some ((a0.extract 0 ((bt225.2.2.1.size : Int) : Int).toNat).toList == bt225.2.2.1.toList)) else (none)) else (some false)) else (some false)) else (some false))) else (none)) else (none))))) else (some false)))) else (none)) else (none)))))) else (none)) else (some true))) else (some false))
theorem targumlaw1_UtfCuts.mono : ∀ a0 a1 a2 k, LeO (targumlaw1_UtfCuts.f k a0 a1 a2) (targumlaw1_UtfCuts.f (k + 1) a0 a1 a2) := by
 intro a0 a1 a2 k
 unfold targumlaw1_UtfCuts.f
 repeat' first
   | (with_reducible exact targumhelp_Few.mono _ _ _)
   | (with_reducible exact targumlaw1_known.mono _)
   | (with_reducible exact utf_Decode.mono _ _)
   | (with_reducible exact utf_Encode.mono _ _ _)
   | (with_reducible exact utf_Size.mono _ _ _)
   | (with_reducible exact LeO.refl _)
   | (with_reducible exact LeO.none _)
   | (with_reducible refine LeO.ite ?_ ?_)
   | (with_reducible refine LeO.bind ?_ (fun _ => ?_))
   | exact targumhelp_Few.mono _ _ _
   | exact targumlaw1_known.mono _
   | exact utf_Decode.mono _ _
   | exact utf_Encode.mono _ _ _
   | exact utf_Size.mono _ _ _
   | exact LeO.none _
   | refine LeO.ite ?_ ?_
   | refine LeO.bind ?_ (fun _ => ?_)
def targumlaw1_UtfCuts.T13 : Bool × List (List Nat × List Nat) := (true, [([], []), ([0], [0]), ([1], [1]), ([], []), ([3], [3]), ([2, 4], [2, 4]), ([5], [5]), ([6], [6]), ([6], [6]), ([8, 6], [6, 8]), ([9, 6], [6, 9]), ([7, 10, 6], [6, 7, 10]), ([6], [6]), ([12, 6], [6, 12]), ([11, 13, 6], [6, 11, 13]), ([6, 14], [6, 14]), ([15, 6], [15]), ([16], [16]), ([16], [16]), ([16], [16]), ([19, 16], [16, 19]), ([18, 20, 16, 16], [16, 18, 20]), ([17, 21, 16], [16, 17, 21]), ([16], [16]), ([22, 23, 16], [16, 22, 23]), ([16, 24], [16, 24]), ([25, 21, 0, 1, 2, 3, 4, 5, 6, 7, 8, 9, 10, 11, 12, 13, 14, 15, 16, 17, 18, 19, 20, 21, 22, 23, 24, 25], [25])])
def targumlaw1_UtfCuts.B13 : List Nat := [0, 1, 3, 0, 8, 31, 63, 127, 127, 383, 895, 2047, 127, 4223, 16383, 32767, 65535, 131071, 131071, 131071, 655359, 1966079, 4194303, 131071, 16777215, 33554431, 67108863]
theorem targumlaw1_UtfCuts.tab13 : rtab .any (opsOf Tryd.f6 13) = targumlaw1_UtfCuts.T13 := by kernel_rfl
theorem targumlaw1_UtfCuts.bits13 : waitsOk targumlaw1_UtfCuts.T13.2 targumlaw1_UtfCuts.B13 = true := by kernel_rfl
def targumlaw1_UtfCuts.T17 : Bool × List (List Nat × List Nat) := (true, [([], []), ([], []), ([0, 1], [0, 1]), ([2], [2]), ([3], [3]), ([4, 3], [3, 4]), ([5, 3], [3, 5]), ([3, 6], [3, 6]), ([7, 3], [7]), ([8], [8]), ([9, 8], [8, 9]), ([10, 8], [8, 10]), ([8], [8]), ([12, 8], [8, 12]), ([11, 13, 8], [8, 11, 13]), ([8, 14], [8, 14]), ([15, 8], [15]), ([16], [16]), ([16], [16]), ([18, 16], [16, 18]), ([19, 16], [16, 19]), ([17, 20, 16], [16, 17, 20]), ([16], [16]), ([22, 16], [16, 22]), ([21, 23, 16], [16, 21, 23]), ([16, 24], [16, 24]), ([25, 16, 0, 1, 2, 3, 4, 5, 6, 7, 8, 9, 10, 11, 12, 13, 14, 15, 16, 17, 18, 19, 20, 21, 22, 23, 24, 25], [25])])
def targumlaw1_UtfCuts.B17 : List Nat := [0, 0, 3, 7, 15, 31, 63, 127, 255, 511, 1023, 2047, 511, 4607, 16383, 32767, 65535, 131071, 131071, 393215, 917503, 2097151, 131071, 4325375, 16777215, 33554431, 67108863]
theorem targumlaw1_UtfCuts.tab17 : rtab .any (opsOf Tryd.f6 17) = targumlaw1_UtfCuts.T17 := by kernel_rfl
theorem targumlaw1_UtfCuts.bits17 : waitsOk targumlaw1_UtfCuts.T17.2 targumlaw1_UtfCuts.B17 = true := by kernel_rfl
theorem three_yes {a b : Int} {l : List UInt8} (h : (a == 0 && (b == 0 && (l == ([] : List UInt8)))) = true) : ∀ (α : Type) (i1 : Decidable (a = 0)) (i2 : Decidable (b = 0)) (i3 : Decidable (l = [])) (X Y : α), @ite α (a = 0) i1 (@ite α (b = 0) i2 (@ite α (l = []) i3 X Y) Y) Y = X := by
  intro α i1 i2 i3 X Y
  simp only [Bool.and_eq_true, beq_iff_eq] at h
  rw [if_pos h.1, if_pos h.2.1, if_pos h.2.2]
theorem three_no {a b : Int} {l : List UInt8} (h : (a == 0 && (b == 0 && (l == ([] : List UInt8)))) = false) : ∀ (α : Type) (i1 : Decidable (a = 0)) (i2 : Decidable (b = 0)) (i3 : Decidable (l = [])) (X Y : α), @ite α (a = 0) i1 (@ite α (b = 0) i2 (@ite α (l = []) i3 X Y) Y) Y = Y := by
  intro α i1 i2 i3 X Y
  by_cases z1 : a = 0
  · by_cases z2 : b = 0
    · by_cases z3 : l = []
      · subst z1 z2 z3; exact absurd h (by decide)
      · rw [if_pos z1, if_pos z2, if_neg z3]
    · rw [if_pos z1, if_neg z2]
  · rw [if_neg z1]
abbrev mk_0 : Array Bool := #[false,false,false,false,false,false,false,false,false,false,false,false,false,false,false,false,false,false,false,false,false,false,false,false,false,false,false]
abbrev mk_1 : Array Bool := #[true,false,false,false,false,false,false,false,false,false,false,false,false,false,false,false,false,false,false,false,false,false,false,false,false,false,false]
abbrev mk_2 : Array Bool := #[true,false,false,true,false,false,false,false,false,false,false,false,false,false,false,false,false,false,false,false,false,false,false,false,false,false,false]
abbrev mk_3 : Array Bool := #[true,false,false,true,true,false,false,false,false,false,false,false,false,false,false,false,false,false,false,false,false,false,false,false,false,false,false]
abbrev mk_4 : Array Bool := #[true,true,false,true,true,false,false,false,false,false,false,false,false,false,false,false,false,false,false,false,false,false,false,false,false,false,false]
abbrev mk_5 : Array Bool := #[true,true,true,true,true,false,false,false,false,false,false,false,false,false,false,false,false,false,false,false,false,false,false,false,false,false,false]
abbrev mk_6 : Array Bool := #[true,true,true,true,true,true,false,false,false,false,false,false,false,false,false,false,false,false,false,false,false,false,false,false,false,false,false]
abbrev mk_7 : Array Bool := #[true,true,true,true,true,true,true,false,false,false,false,false,false,false,false,false,false,false,false,false,false,false,false,false,false,false,false]
abbrev mk_8 : Array Bool := #[true,true,true,true,true,true,true,true,false,false,false,false,false,false,false,false,false,false,false,false,false,false,false,false,false,false,false]
abbrev mk_9 : Array Bool := #[true,true,true,true,true,true,true,true,true,false,false,false,false,false,false,false,false,false,false,false,false,false,false,false,false,false,false]
abbrev mk_10 : Array Bool := #[true,true,true,true,true,true,true,true,true,false,false,false,true,false,false,false,false,false,false,false,false,false,false,false,false,false,false]
abbrev mk_11 : Array Bool := #[true,true,true,true,true,true,true,true,true,true,false,false,true,false,false,false,false,false,false,false,false,false,false,false,false,false,false]
abbrev mk_12 : Array Bool := #[true,true,true,true,true,true,true,true,true,true,true,false,true,false,false,false,false,false,false,false,false,false,false,false,false,false,false]
abbrev mk_13 : Array Bool := #[true,true,true,true,true,true,true,true,true,true,true,true,true,false,false,false,false,false,false,false,false,false,false,false,false,false,false]
abbrev mk_14 : Array Bool := #[true,true,true,true,true,true,true,true,true,true,true,true,true,true,false,false,false,false,false,false,false,false,false,false,false,false,false]
abbrev mk_15 : Array Bool := #[true,true,true,true,true,true,true,true,true,true,true,true,true,true,true,false,false,false,false,false,false,false,false,false,false,false,false]
abbrev mk_16 : Array Bool := #[true,true,true,true,true,true,true,true,true,true,true,true,true,true,true,true,false,false,false,false,false,false,false,false,false,false,false]
abbrev mk_17 : Array Bool := #[true,true,true,true,true,true,true,true,true,true,true,true,true,true,true,true,true,false,false,false,false,false,false,false,false,false,false]
abbrev mk_18 : Array Bool := #[true,true,true,true,true,true,true,true,true,true,true,true,true,true,true,true,true,true,false,false,false,false,false,false,false,false,false]
abbrev mk_19 : Array Bool := #[true,true,true,true,true,true,true,true,true,true,true,true,true,true,true,true,true,true,true,false,false,false,false,false,false,false,false]
abbrev mk_20 : Array Bool := #[true,true,true,true,true,true,true,true,true,true,true,true,true,true,true,true,true,true,true,true,false,false,false,false,false,false,false]
abbrev mk_21 : Array Bool := #[true,true,true,true,true,true,true,true,true,true,true,true,true,true,true,true,true,true,true,true,false,false,false,true,false,false,false]
abbrev mk_22 : Array Bool := #[true,true,true,true,true,true,true,true,true,true,true,true,true,true,true,true,true,true,true,true,true,false,false,true,false,false,false]
abbrev mk_23 : Array Bool := #[true,true,true,true,true,true,true,true,true,true,true,true,true,true,true,true,true,true,true,true,true,true,false,true,false,false,false]
abbrev mk_24 : Array Bool := #[true,true,true,true,true,true,true,true,true,true,true,true,true,true,true,true,true,true,true,true,true,true,true,true,false,false,false]
abbrev mk_25 : Array Bool := #[true,true,true,true,true,true,true,true,true,true,true,true,true,true,true,true,true,true,true,true,true,true,true,true,true,false,false]
abbrev mk_26 : Array Bool := #[true,true,true,true,true,true,true,true,true,true,true,true,true,true,true,true,true,true,true,true,true,true,true,true,true,true,false]
abbrev mk_27 : Array Bool := #[true,true,true,true,true,true,true,true,true,true,true,true,true,true,true,true,true,true,true,true,true,true,true,true,true,true,true]
abbrev mk_28 : Array Bool := #[true,true,true,true,true,true,true,true,true,true,true,true,true,true,true,true,true,true,true,true,true,false,false,false,false,false,false]
abbrev mk_29 : Array Bool := #[true,true,true,true,true,true,true,true,true,true,true,true,true,true,true,true,true,true,true,true,true,true,false,false,false,false,false]
abbrev mk_30 : Array Bool := #[true,true,true,true,true,true,true,true,true,true,true,true,true,true,true,true,true,true,true,true,true,true,true,false,false,false,false]
abbrev mk_31 : Array Bool := #[true,true,true,true,true,true,true,true,true,true,false,false,false,false,false,false,false,false,false,false,false,false,false,false,false,false,false]
abbrev mk_32 : Array Bool := #[true,true,true,true,true,true,true,true,true,true,true,false,false,false,false,false,false,false,false,false,false,false,false,false,false,false,false]
abbrev mk_33 : Array Bool := #[true,true,true,true,true,true,true,true,true,true,true,true,false,false,false,false,false,false,false,false,false,false,false,false,false,false,false]
abbrev mk_34 : Array Bool := #[false,true,false,false,false,false,false,false,false,false,false,false,false,false,false,false,false,false,false,false,false,false,false,false,false,false,false]
abbrev mk_35 : Array Bool := #[true,true,false,false,false,false,false,false,false,false,false,false,false,false,false,false,false,false,false,false,false,false,false,false,false,false,false]
abbrev mk_36 : Array Bool := #[true,true,true,false,false,false,false,false,false,false,false,false,false,false,false,false,false,false,false,false,false,false,false,false,false,false,false]
abbrev mk_37 : Array Bool := #[true,true,true,true,false,false,false,false,false,false,false,false,false,false,false,false,false,false,false,false,false,false,false,false,false,false,false]
abbrev mk_38 : Array Bool := #[true,true,true,true,true,true,true,true,true,true,false,false,true,true,false,false,false,false,false,false,false,false,false,false,false,false,false]
abbrev mk_39 : Array Bool := #[true,true,true,true,true,true,true,true,true,true,true,false,true,true,false,false,false,false,false,false,false,false,false,false,false,false,false]
abbrev mk_40 : Array Bool := #[true,true,true,true,true,true,true,true,true,true,true,true,true,true,true,true,true,true,true,false,false,false,true,false,false,false,false]
abbrev mk_41 : Array Bool := #[true,true,true,true,true,true,true,true,true,true,true,true,true,true,true,true,true,true,true,true,false,false,true,false,false,false,false]
abbrev mk_42 : Array Bool := #[true,true,true,true,true,true,true,true,true,true,true,true,true,true,true,true,true,true,true,true,true,false,true,false,false,false,false]
end Go.Proofs.YtmpdggphhhljhaaDoor.PC
