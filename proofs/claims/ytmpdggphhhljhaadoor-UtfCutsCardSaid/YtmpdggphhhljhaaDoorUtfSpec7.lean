/- Bytes as a text: layer 1's answer and its reference's are one. No conditions but bytes and sizes. -/
import Derived.Test.YtmpdggphhhljhaaDoorUtfSpec6
import Derived.Test.YtmpdggphhhljhaaDoorPCx4
namespace Go.Proofs.YtmpdggphhhljhaaDoor.UtfSpec
set_option linter.unusedSimpArgs false
set_option linter.unusedVariables false
open Go.RowKit Go.Proofs.YtmpdggphhhljhaaDoor.PC Go.Proofs.YtmpdggphhhljhaaDoorW.PrintWords Go.Proofs.YtmpdggphhhljhaaDoor.Aid Go.Proofs.YtmpdggphhhljhaaDoor.BrkFns
theorem decodeN_scalar (n b0 b1 b2 b3 : Nat) : isScalar ((Lib.decodeN n b0 b1 b2 b3).1 : Int) = true := by
  unfold isScalar
  refine decide_eq_true ?_
  unfold Lib.decodeN
  repeat' split
  all_goals (dsimp only; omega)
theorem nx_scalar (l : List UInt8) : isScalar ((nx l).1 : Int) = true := by
  unfold nx
  split
  · rfl
  · split
    · rfl
    · exact decodeN_scalar _ _ _ _ _
theorem scal_ok (e : Int) (l : List Int) (h : isB l) (hz : (scal e l).2 ≠ 0) : isScalar (scal e l).1 = true ∧ 0 < (scal e l).2 ∧ (scal e l).2 ≤ 4 ∧ (scal e l).2 ≤ l.length := by
  unfold scal at hz ⊢
  by_cases h1 : e = 1
  · rw [if_pos h1] at hz ⊢
    have := nx_width (to8 l)
    rw [to8_len] at this
    exact ⟨nx_scalar _, by dsimp only at hz ⊢; omega, by dsimp only; omega, by dsimp only; omega⟩
  rw [if_neg h1] at hz ⊢
  by_cases h2 : e = 2 ∨ e = 3
  · rw [if_pos h2] at hz ⊢
    match l, h, hz with
    | [], _, hz => exact absurd rfl hz
    | [a], _, hz => exact absurd rfl hz
    | a :: b :: r, h, hz =>
      have hr := u2_range (t := lit e) h.head h.tail.head
      rw [two_cons] at hz ⊢
      obtain ⟨u, hu⟩ : ∃ u, u2 (lit e) a b = u := ⟨_, rfl⟩
      rw [hu] at hz hr ⊢
      by_cases hs : 55296 ≤ u ∧ u < 56320
      · rw [if_pos hs] at hz ⊢
        match r, h, hz with
        | [], _, hz => exact absurd rfl hz
        | [c], _, hz => exact absurd rfl hz
        | c :: d :: r, h, hz =>
          have hv := u2_range (t := lit e) h.tail.tail.head h.tail.tail.tail.head
          rw [low_cons] at hz ⊢
          obtain ⟨v, hv'⟩ : ∃ v, u2 (lit e) c d = v := ⟨_, rfl⟩
          rw [hv'] at hz hv ⊢
          by_cases hq : v < 56320 ∨ 57343 < v
          · rw [if_pos hq] at hz; exact absurd rfl hz
          · rw [if_neg hq]
            exact ⟨decide_eq_true (by dsimp only; omega), by dsimp only; omega, by dsimp only; omega, by simp only [List.length_cons]; omega⟩
      · rw [if_neg hs] at hz ⊢
        by_cases hq : isScalar u = true
        · rw [if_pos hq]
          exact ⟨hq, by dsimp only; omega, by dsimp only; omega, by simp only [List.length_cons]; omega⟩
        · rw [if_neg hq] at hz; exact absurd rfl hz
  · rw [if_neg h2] at hz ⊢
    match l, h, hz with
    | [], _, hz => exact absurd rfl hz
    | [a], _, hz => exact absurd rfl hz
    | [a, b], _, hz => exact absurd rfl hz
    | [a, b, c], _, hz => exact absurd rfl hz
    | a :: b :: c :: d :: r, h, hz =>
      rw [four_cons] at hz ⊢
      obtain ⟨u, hu⟩ : ∃ u, u4 (lit e) a b c d = u := ⟨_, rfl⟩
      rw [hu] at hz ⊢
      by_cases hq : isScalar u = true
      · rw [if_pos hq]
        exact ⟨hq, by dsimp only; omega, by dsimp only; omega, by simp only [List.length_cons]; omega⟩
      · rw [if_neg hq] at hz; exact absurd rfl hz
/-- the text, or where no scalar begins -/
def decL (e m : Int) (l : List Int) : Nat → Nat → List Int → Int × Int × ByteArray × Int × Int
  | 0, _, o => (e, m, strOfNums o, 0, 0)
  | d + 1, i, o => if i < l.length then (if (scal e (l.drop i)).2 = 0 then (0, 0, (⟨#[]⟩ : ByteArray), 10, (i : Int)) else decL e m l d (i + (scal e (l.drop i)).2.toNat) (o ++ Lib.encodeRuneZ (scal e (l.drop i)).1)) else (e, m, strOfNums o, 0, 0)
theorem Decode_l0 (e m : Int) (he : 1 ≤ e ∧ e ≤ 5) (l : List Int) (h : isB l) (hz : l.length ≤ 100000000) : ∀ (d i k : Nat) (o : List Int), l.length - i ≤ d → d + 14 ≤ k → o.length ≤ 4 * i → i ≤ l.length → utf_Decode.l0 k l e m o (i : Int) = some (decL e m l d i o) := by
  intro d
  induction d with
  | zero =>
    intro i k o hd hk ho hi
    obtain ⟨k, rfl⟩ : ∃ j, k = j + 1 := ⟨k - 1, by omega⟩
    simp only [utf_Decode.l0, decL]
    rw [if_neg (by omega)]
  | succ d ih =>
    intro i k o hd hk ho hi
    obtain ⟨k, rfl⟩ : ∃ j, k = j + 1 := ⟨k - 1, by omega⟩
    simp only [utf_Decode.l0, decL]
    by_cases hlt : i < l.length
    · have hne : l.drop i ≠ [] := by
        intro q; have := congrArg List.length q; rw [List.length_drop] at this; simp at this; omega
      rw [if_pos (by omega), if_pos (by omega), if_pos (by omega), if_pos hlt, Int.toNat_natCast, first_eq k (by omega) e he _ (h.drop i) hne, Option.bind_some]
      have hok := scal_ok e (l.drop i) (h.drop i)
      obtain ⟨s, hs⟩ : ∃ s, scal e (l.drop i) = s := ⟨_, rfl⟩
      rw [hs] at hok ⊢
      by_cases h0 : s.2 = 0
      · rw [if_pos h0, if_pos h0]
      · obtain ⟨h1, h2, h3, h4⟩ := hok h0
        rw [List.length_drop] at h4
        rw [if_neg h0, if_neg h0, AppendRune_eq k (by omega) o s.1 h1 (by omega), Option.bind_some, wrap_id (by omega) (by omega)]
        have hl := (Lib.encodeRuneZ_length s.1).2
        have := ih (i + s.2.toNat) k (o ++ Lib.encodeRuneZ s.1) (by omega) (by omega) (by rw [List.length_append]; omega) (by omega)
        rw [show ((i + s.2.toNat : Nat) : Int) = (i : Int) + s.2 by omega] at this
        exact this
    · rw [if_neg (by omega), if_neg hlt]
theorem atI_range (l : List Int) (h : isB l) (i : Nat) : atI l i = -1 ∨ (0 ≤ atI l i ∧ i < l.length) := by
  unfold atI
  rw [List.getD_eq_getElem?_getD]
  by_cases hi : i < l.length
  · rw [List.getElem?_eq_getElem hi]
    exact .inr ⟨(h l[i] (List.getElem_mem hi)).1, hi⟩
  · rw [List.getElem?_eq_none (by omega)]; exact .inl rfl
theorem dd_range (w x y z : Int) : (1 ≤ (dd w x y z).1 ∧ (dd w x y z).1 ≤ 5) := by
  unfold dd d0 d1 d2 d3 d4 d5 d6 d7
  repeat' split
  all_goals (dsimp only; omega)
/-- the mark lies within the bytes -/
theorem dd_mark (l : List Int) (h : isB l) : ∃ m : Nat, (dd (atI l 0) (atI l 1) (atI l 2) (atI l 3)).2 = (m : Int) ∧ m ≤ l.length := by
  have h1 := atI_range l h 1
  have h2 := atI_range l h 2
  have h3 := atI_range l h 3
  generalize atI l 0 = w at *
  generalize atI l 1 = x at *
  generalize atI l 2 = y at *
  generalize atI l 3 = z at *
  unfold dd d0 d1 d2 d3 d4 d5 d6 d7
  repeat' split
  · exact ⟨4, rfl, by omega⟩
  · exact ⟨0, rfl, by omega⟩
  · exact ⟨4, rfl, by omega⟩
  · exact ⟨0, rfl, by omega⟩
  · exact ⟨2, rfl, by omega⟩
  · exact ⟨0, rfl, by omega⟩
  · exact ⟨2, rfl, by omega⟩
  · exact ⟨0, rfl, by omega⟩
  · exact ⟨3, rfl, by omega⟩
  · exact ⟨0, rfl, by omega⟩
def detE (l : List Int) : Int := (dd (atI l 0) (atI l 1) (atI l 2) (atI l 3)).1
def detM (l : List Int) : Nat := (dd (atI l 0) (atI l 1) (atI l 2) (atI l 3)).2.toNat
theorem detE_range (l : List Int) : 1 ≤ detE l ∧ detE l ≤ 5 := dd_range _ _ _ _
theorem detM_eq (l : List Int) (h : isB l) : dd (atI l 0) (atI l 1) (atI l 2) (atI l 3) = (detE l, (detM l : Int)) ∧ detM l ≤ l.length := by
  obtain ⟨m, h1, h2⟩ := dd_mark l h
  unfold detE detM
  rw [h1]
  exact ⟨Prod.ext rfl h1, h2⟩
theorem Decode_eq (l : List Int) (h : isB l) (hz : l.length ≤ 100000000) (k : Nat) (hk : l.length + 20 ≤ k) : utf_Decode.f k l = some (decL (detE l) (detM l) l l.length (detM l) []) := by
  unfold utf_Decode.f
  obtain ⟨e, hm⟩ := detM_eq l h
  rw [Detect_eq k (by omega) l h, Option.bind_some, e]
  exact Decode_l0 _ _ (detE_range l) l h hz l.length (detM l) k [] (by omega) (by omega) (by simp) hm
end Go.Proofs.YtmpdggphhhljhaaDoor.UtfSpec
