/- Scalars written down: what layer 1 and its reference put behind a row of bytes. No conditions but sizes. -/
import Derived.Test.YtmpdggphhhljhaaDoorUtfSpec2
import Derived.Lib.RuneBytes
import Derived.Test.YtmpdggphhhljhaaDoorPCx4
namespace Go.Proofs.YtmpdggphhhljhaaDoor.UtfSpec
set_option linter.unusedSimpArgs false
set_option linter.unusedVariables false
open Go.RowKit Go.Proofs.YtmpdggphhhljhaaDoor.PC Go.Proofs.YtmpdggphhhljhaaDoorW.PrintWords Go.Proofs.YtmpdggphhhljhaaDoor.Aid Go.Proofs.YtmpdggphhhljhaaDoor.BrkFns
/-! ### the reference's scalar of UTF-8, and of every encoding -/
theorem take_mn (l : List Int) (i : Nat) : (l.take (min l.length (i + 4))).drop i = (l.drop i).take 4 := by
  rw [List.take_drop]
  congr 1
  rcases Nat.le_total l.length (i + 4) with h | h
  · rw [Nat.min_eq_left h, List.take_length, List.take_of_length_le h]
  · rw [Nat.min_eq_right h]
/-! ### UTF-8 written down -/
theorem or192 : ∀ X : Fin 32, Go.bits .or .u8 192 ((X.val : Nat) : Int) = 192 + (X.val : Int) := by decide +kernel
theorem or224 : ∀ X : Fin 16, Go.bits .or .u8 224 ((X.val : Nat) : Int) = 224 + (X.val : Int) := by decide +kernel
theorem or240 : ∀ X : Fin 8, Go.bits .or .u8 240 ((X.val : Nat) : Int) = 240 + (X.val : Int) := by decide +kernel
theorem or_192 (x : Int) (h0 : 0 ≤ x) (h1 : x < 32) : Go.bits .or .u8 192 x = 192 + x := by
  have := or192 ⟨x.toNat, by omega⟩
  rwa [show (((⟨x.toNat, by omega⟩ : Fin 32).val : Nat) : Int) = x by show ((x.toNat : Nat) : Int) = x; omega] at this
theorem or_224 (x : Int) (h0 : 0 ≤ x) (h1 : x < 16) : Go.bits .or .u8 224 x = 224 + x := by
  have := or224 ⟨x.toNat, by omega⟩
  rwa [show (((⟨x.toNat, by omega⟩ : Fin 16).val : Nat) : Int) = x by show ((x.toNat : Nat) : Int) = x; omega] at this
theorem or_240 (x : Int) (h0 : 0 ≤ x) (h1 : x < 8) : Go.bits .or .u8 240 x = 240 + x := by
  have := or240 ⟨x.toNat, by omega⟩
  rwa [show (((⟨x.toNat, by omega⟩ : Fin 8).val : Nat) : Int) = x by show ((x.toNat : Nat) : Int) = x; omega] at this
theorem AppendRune_eq (k : Nat) (hk : 2 ≤ k) (o : List Int) (c : Int) (hc : isScalar c = true) (ho : o.length ≤ 1000000000) : utf8_AppendRune.f k o c = some (o ++ Lib.encodeRuneZ c) := by
  obtain ⟨k, rfl⟩ : ∃ j, k = j + 1 := ⟨k - 1, by omega⟩
  have hs := of_decide_eq_true hc
  have hm : c % 4294967296 = c := by omega
  unfold utf8_AppendRune.f
  rw [hm]
  by_cases h1 : c ≤ 127
  · rw [if_pos h1, if_pos (by omega), Lib.encodeRuneZ_one hs.1 h1, show c % 256 = c by omega]
  · rw [if_neg h1]
    unfold utf8_appendRuneNonASCII.f
    rw [hm]
    by_cases h2 : c ≤ 2047
    · rw [if_pos h2, Option.bind_some, show c / 64 % 256 = c / 64 by omega, or_192 _ (by omega) (by omega), if_pos (by simp only [List.length_cons, List.length_nil]; omega), Option.bind_some, Lib.encodeRuneZ_two (by omega) h2]
    · rw [if_neg h2]
      have three : ((2048 ≤ c ∧ c < 55296) ∨ (57343 < c ∧ c ≤ 65535)) → utf8_appendRuneNonASCII.j0 (k + 1) o c c true = some (o ++ Lib.encodeRuneZ c) := fun h3 => by
        simp only [utf8_appendRuneNonASCII.j0, if_true, Option.bind_some]
        rw [show c / 4096 % 256 = c / 4096 by omega, or_224 _ (by omega) (by omega), if_pos (by simp only [List.length_cons, List.length_nil]; omega), Lib.encodeRuneZ_three h3]
      by_cases h3 : c < 55296
      · rw [if_pos h3, decide_eq_true h3, three (by omega)]; rfl
      · rw [if_neg h3, if_pos (by omega)]
        by_cases h4 : c ≤ 65535
        · rw [decide_eq_true h4, three (by omega)]; rfl
        · rw [decide_eq_false h4]
          simp only [utf8_appendRuneNonASCII.j0, Bool.false_eq_true, if_false, Option.bind_some]
          rw [if_pos (by omega), if_pos (by omega), show c / 262144 % 256 = c / 262144 by omega, or_240 _ (by omega) (by omega), if_pos (by simp only [List.length_cons, List.length_nil]; omega), Option.bind_some, Lib.encodeRuneZ_four (by omega) (by omega)]
end Go.Proofs.YtmpdggphhhljhaaDoor.UtfSpec
