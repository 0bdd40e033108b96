/- What the laws of chapter 8 have in common: the known answers, and both functions at one text. No conditions but sizes. -/
import Derived.Test.YtbjlcipamdgnjaaDoorNumSpec3
import Derived.Test.YtbjlcipamdgnjaaDoorPNx6
namespace Go.Proofs.YtbjlcipamdgnjaaDoor.NumSpec
set_option linter.unusedSimpArgs false
set_option linter.unusedVariables false
open Go.RowKit Go.Lib Go.Proofs.YtbjlcipamdgnjaaDoor.Room Go.Proofs.YtbjlcipamdgnjaaDoor.PN Go.Proofs.YtbjlcipamdgnjaaDoorW.PrintWords Go.Proofs.YtbjlcipamdgnjaaDoor.Aid Go.Proofs.YtbjlcipamdgnjaaDoor.Num Go.Proofs.YtbjlcipamdgnjaaDoor.BigFns Go.Proofs.YtbjlcipamdgnjaaDoor.BigQ Go.Proofs.YtbjlcipamdgnjaaDoor.RefBig Go.Proofs.YtbjlcipamdgnjaaDoor.DecSpec
theorem known8_at : targumlaw8_known.f 300 = some true := by decide +kernel
theorem known8 (k : Nat) (hk : 300 ≤ k) : targumlaw8_known.f k = some true := at_rounds targumlaw8_known.mono hk known8_at
/-- a whole number is no decimal -/
theorem float_int {l : List UInt8} (h : (int12 l).toList ≠ []) : float12 l = zeroD := by
  unfold float12
  have hw : (wordD (sg l).1 (sg l).2).2.2.2.2 = false := by
    have h1 : ¬ infW (sg l).2 = true := fun q => h (by rw [word_int l (.inl q)]; exact txt_toList [])
    have h2 : ¬ nanW (sg l).2 = true := fun q => h (by rw [word_int l (.inr q)]; exact txt_toList [])
    unfold wordD
    rw [if_neg h1, if_neg h2]
    rfl
  rw [hw, if_neg Bool.false_ne_true, if_pos h]
theorem int12_oct (l : List UInt8) : int12 (48 :: 111 :: l) = if l = [] then ⟨#[]⟩ else baseT 8 l := by
  unfold int12; rw [if_pos (show List.take 2 ((48 : UInt8) :: 111 :: l) = [48, 111] from rfl)]; rfl
theorem int12_hex (l : List UInt8) : int12 (48 :: 120 :: l) = if l = [] then ⟨#[]⟩ else baseT 16 l := by
  unfold int12; rw [if_neg (show ¬ List.take 2 ((48 : UInt8) :: 120 :: l) = [48, 111] by simp), if_pos (show List.take 2 ((48 : UInt8) :: 120 :: l) = [48, 120] from rfl)]; rfl
theorem num_list_ne (z : Int) : (num z).toList ≠ [] := num_ne z
theorem take2_ne {l : List UInt8} {a b : UInt8} (h : ¬ isDig b) (hd : Digs l) : l.take 2 ≠ [a, b] := fun q => h (hd b (List.mem_of_mem_take (by rw [q]; simp)))
/-- decimal digits -/
theorem int12_digs {l : List UInt8} (h : Digs l) (hne : l ≠ []) : int12 l = num (val l) := by
  unfold int12
  rw [if_neg (take2_ne (fun q => absurd q.2 (by decide)) h), if_neg (take2_ne (fun q => absurd q.2 (by decide)) h)]
  unfold normS sv
  rw [sg_digs h, (okD_iff l).2 ⟨h, hne⟩, if_pos rfl, if_neg (show ¬ (([] : List UInt8) == [45]) = true by decide)]
/-- decimal digits behind a sign -/
theorem int12_sign {x : UInt8} (hx : x = 43 ∨ x = 45) {l : List UInt8} (h : Digs l) (hne : l ≠ []) : int12 (x :: l) = num (if x = 45 then -(val l : Int) else (val l : Int)) := by
  have ht : ∀ b, (x :: l).take 2 ≠ [48, b] := fun b q => by
    have : x = 48 := by simpa using congrArg List.head? q
    rcases hx with e | e <;> (rw [e] at this; exact absurd this (by decide))
  unfold int12
  rw [if_neg (ht _), if_neg (ht _)]
  unfold normS sv
  rw [sg_sign hx, (okD_iff l).2 ⟨h, hne⟩, if_pos rfl]
  rcases hx with e | e <;> (subst e; rfl)
/-- no digits behind the sign: no whole number -/
theorem int12_no {l : List UInt8} (h1 : l.take 2 ≠ [48, 111]) (h2 : l.take 2 ≠ [48, 120]) (h : ¬ Digs (sg l).2) : int12 l = ⟨#[]⟩ := by
  unfold int12 normS
  rw [if_neg h1, if_neg h2, if_neg]
  exact fun q => h ((okD_iff _).1 q).1
end Go.Proofs.YtbjlcipamdgnjaaDoor.NumSpec
