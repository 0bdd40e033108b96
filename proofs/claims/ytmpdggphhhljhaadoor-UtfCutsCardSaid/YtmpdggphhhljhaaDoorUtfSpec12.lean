/- Texts cut off, bytes spoilt: what is decoded, where it ends. No conditions but sizes. -/
import Derived.Test.YtmpdggphhhljhaaDoorUtfLaw
namespace Go.Proofs.YtmpdggphhhljhaaDoor.UtfSpec
set_option linter.unusedSimpArgs false
set_option linter.unusedVariables false
open Go.RowKit Go.Proofs.YtmpdggphhhljhaaDoor.PC Go.Proofs.YtmpdggphhhljhaaDoorW.PrintWords Go.Proofs.YtmpdggphhhljhaaDoor.Aid Go.Proofs.YtmpdggphhhljhaaDoor.BrkFns
/-- what a scalar is doesn't hang on what is behind it -/
theorem scal_append (e : Int) (t r : List Int) (hz : (scal e t).2 ≠ 0) : scal e (t ++ r) = scal e t := by
  unfold scal at hz ⊢
  by_cases h1 : e = 1
  · rw [if_pos h1] at hz ⊢
    rw [if_pos h1, to8_append, nx_append _ (by dsimp only at hz; omega)]
  rw [if_neg h1] at hz ⊢
  rw [if_neg h1]
  by_cases h2 : e = 2 ∨ e = 3
  · rw [if_pos h2] at hz ⊢
    rw [if_pos h2]
    match t, hz with
    | [], hz => exact absurd rfl hz
    | [a], hz => exact absurd rfl hz
    | a :: b :: t, hz =>
      rw [two_cons] at hz
      show two (lit e) (a :: b :: (t ++ r)) = _
      rw [two_cons, two_cons]
      by_cases hs : 55296 ≤ u2 (lit e) a b ∧ u2 (lit e) a b < 56320
      · rw [if_pos hs] at hz ⊢
        rw [if_pos hs]
        match t, hz with
        | [], hz => exact absurd rfl hz
        | [c], hz => exact absurd rfl hz
        | c :: d :: t, hz => rfl
      · rw [if_neg hs, if_neg hs]
  · rw [if_neg h2] at hz ⊢
    rw [if_neg h2]
    match t, hz with
    | [], hz => exact absurd rfl hz
    | [a], hz => exact absurd rfl hz
    | [a, b], hz => exact absurd rfl hz
    | [a, b, c], hz => exact absurd rfl hz
    | a :: b :: c :: d :: t, hz => rfl
/-- a scalar's bytes, some lacking: none -/
theorem scal_cut (e c : Int) (he : 1 ≤ e ∧ e ≤ 5) (hc : isScalar c = true) (j : Nat) (hj : j < (encU e c).length) : (scal e ((encU e c).take j)).2 = 0 := by
  by_cases h : (scal e ((encU e c).take j)).2 = 0
  · exact h
  · have h1 := scal_append e ((encU e c).take j) ((encU e c).drop j) h
    have hB : isB ((encU e c).take j) := fun x hx => encU_isB e c x (List.mem_of_mem_take hx)
    obtain ⟨_, _, _, h4⟩ := scal_ok e _ hB h
    have h5 := scal_enc e c he hc []
    rw [List.append_nil] at h5
    rw [List.take_append_drop, h5] at h1
    rw [← h1, List.length_take] at h4
    dsimp only at h4
    omega
theorem encU_pos (e c : Int) : 0 < (encU e c).length := by
  unfold encU
  split
  · exact (Lib.encodeRuneZ_length c).1
  · split
    · split
      · rw [List.length_append, b2_len, b2_len]; omega
      · rw [b2_len]; omega
    · rw [b4_len]; omega
/-- a text's bytes, then bytes that no scalar begins -/
theorem dec_tail (e m : Int) (he : 1 ≤ e ∧ e ≤ 5) (tail : List Int) (ht : tail ≠ []) (hs : (scal e tail).2 = 0) : ∀ (d : Nat) (l : List UInt8) (pre : List Int) (D : Nat) (o : List Int), l.length ≤ d → well l = true → (encL e d l).length < D →
    decL e m (pre ++ (encL e d l ++ tail)) D pre.length o = (0, 0, (⟨#[]⟩ : ByteArray), 10, ((pre.length + (encL e d l).length : Nat) : Int))
  | 0, l, pre, D, o, hd, hw, hD => by
    have : l = [] := List.length_eq_zero_iff.1 (by omega)
    subst this
    have e1 : encL e 0 ([] : List UInt8) = [] := rfl
    rw [e1] at hD ⊢
    have hp := List.length_pos_iff.2 ht
    obtain ⟨D, rfl⟩ : ∃ j, D = j + 1 := ⟨D - 1, by omega⟩
    rw [List.nil_append]
    simp only [decL]
    rw [if_pos (by rw [List.length_append]; omega), List.drop_left, if_pos hs]
    rfl
  | d + 1, l, pre, D, o, hd, hw, hD => by
    by_cases hne : l = []
    · subst hne
      have e1 : encL e (d + 1) ([] : List UInt8) = [] := rfl
      rw [e1] at hD ⊢
      have hp := List.length_pos_iff.2 ht
      obtain ⟨D, rfl⟩ : ∃ j, D = j + 1 := ⟨D - 1, by omega⟩
      rw [List.nil_append]
      simp only [decL]
      rw [if_pos (by rw [List.length_append]; omega), List.drop_left, if_pos hs]
      rfl
    · have hpos : 0 < l.length := List.length_pos_iff.2 hne
      obtain ⟨h0, hw2⟩ := well_step hw hne
      have hwd := nx_width l
      have hsc := nx_scalar l
      have hul := encU_pos e ((nx l).1 : Int)
      rw [encL_cons e d l hne] at hD ⊢
      rw [List.length_append] at hD
      obtain ⟨D, rfl⟩ : ∃ j, D = j + 1 := ⟨D - 1, by omega⟩
      have ih := dec_tail e m he tail ht hs d (l.drop (nx l).2) (pre ++ encU e ((nx l).1 : Int)) D (o ++ Lib.encodeRuneZ ((nx l).1 : Int)) (by rw [List.length_drop]; omega) hw2 (by omega)
      simp only [decL]
      rw [if_pos (by rw [List.length_append, List.length_append, List.length_append]; omega), List.drop_left, List.append_assoc, scal_enc e _ he hsc, if_neg (by dsimp only; omega)]
      dsimp only
      rw [Int.toNat_natCast]
      rw [List.length_append, List.append_assoc] at ih
      rw [ih, List.length_append, Nat.add_assoc]
/-- the bytes of a text -/
def encT (e : Int) (l : List UInt8) : List Int := encL e l.length l
theorem encT_cons (e : Int) {l : List UInt8} (hw : well l = true) (hne : l ≠ []) : encT e l = encU e ((nx l).1 : Int) ++ encT e (l.drop (nx l).2) := by
  have hpos : 0 < l.length := List.length_pos_iff.2 hne
  obtain ⟨h0, hw2⟩ := well_step hw hne
  unfold encT
  obtain ⟨n, hn⟩ : ∃ n, l.length = n + 1 := ⟨l.length - 1, by omega⟩
  rw [hn, encL_cons e n l hne]
  congr 1
  exact encL_enough e _ _ _ hw2 (by rw [List.length_drop]; omega) (Nat.le_refl _)
theorem encS_T (e : Int) (he : 1 ≤ e ∧ e ≤ 5) (s : ByteArray) (hw : well s.data.toList = true) : encS e s = encT e s.data.toList := by
  unfold encS encT
  rw [if_pos ⟨he.1, he.2, hw⟩, Lib.size_eq]
theorem take_bytes {l : List UInt8} (h : (nx l).2 ≠ 0) : l.take (nx l).2 = to8 (Lib.encodeRuneZ ((nx l).1 : Int)) := by rw [nx_bytes h, to8_nums]
/-- a text cut off in its bytes -/
theorem cut_text (e : Int) (he : 1 ≤ e ∧ e ≤ 5) : ∀ (n : Nat) (l : List UInt8), l.length ≤ n → well l = true → ∀ j : Nat, ∃ (p q : List UInt8) (tail : List Int), l = p ++ q ∧ well p = true ∧ (encT e l).take j = encT e p ++ tail ∧ (tail = [] ∨ (scal e tail).2 = 0) ∧ tail.length ≤ 3
  | 0, l, hn, hw, j => by
    have : l = [] := List.length_eq_zero_iff.1 (by omega)
    subst this
    exact ⟨[], [], [], rfl, rfl, by show ([] : List Int).take j = []; exact List.take_nil, .inl rfl, Nat.zero_le _⟩
  | n + 1, l, hn, hw, j => by
    by_cases hne : l = []
    · subst hne
      exact ⟨[], [], [], rfl, rfl, by show ([] : List Int).take j = []; exact List.take_nil, .inl rfl, Nat.zero_le _⟩
    have hpos : 0 < l.length := List.length_pos_iff.2 hne
    obtain ⟨h0, hw2⟩ := well_step hw hne
    have hwd := nx_width l
    have hsc := nx_scalar l
    have hul := encU_len e ((nx l).1 : Int)
    rw [encT_cons e hw hne]
    by_cases hj : j < (encU e ((nx l).1 : Int)).length
    · refine ⟨[], l, (encU e ((nx l).1 : Int)).take j, rfl, rfl, ?_, .inr (scal_cut e _ he hsc j hj), by rw [List.length_take]; omega⟩
      rw [List.take_append_of_le_length (by omega)]
      rfl
    · obtain ⟨p, q, tail, e1, e2, e3, e4, e5⟩ := cut_text e he n (l.drop (nx l).2) (by rw [List.length_drop]; omega) hw2 (j - (encU e ((nx l).1 : Int)).length)
      have hb := take_bytes h0
      have hnx := nx_enc ((nx l).1 : Int) hsc p
      rw [← hb] at hnx
      have hlen : (l.take (nx l).2).length = (nx l).2 := by rw [List.length_take]; omega
      have hll : (Lib.encodeRuneZ ((nx l).1 : Int)).length = (nx l).2 := nx_len h0
      have hwp := well_cons p (nx l).2 h0 _ (by rw [hnx, hll]) hlen e2
      refine ⟨l.take (nx l).2 ++ p, q, tail, by rw [List.append_assoc, ← e1, List.take_append_drop], hwp, ?_, e4, e5⟩
      have hne2 : l.take (nx l).2 ++ p ≠ [] := by
        intro z
        have := congrArg List.length z
        rw [List.length_append, hlen, List.length_nil] at this
        omega
      rw [encT_cons e hwp hne2, hnx, hll]
      dsimp only
      rw [show ((((nx l).1 : Int).toNat : Nat) : Int) = ((nx l).1 : Int) by omega]
      have hdr : (l.take (nx l).2 ++ p).drop (nx l).2 = p := by
        have := List.drop_left (l₁ := l.take (nx l).2) (l₂ := p)
        rw [hlen] at this
        exact this
      rw [hdr, List.take_append, List.take_of_length_le (by omega), e3, List.append_assoc]
theorem atI_take (r : List Int) (j i : Nat) : atI (r.take j) i = if i < j then atI r i else -1 := by
  unfold atI
  rw [List.getD_eq_getElem?_getD, List.getD_eq_getElem?_getD]
  by_cases h : i < j
  · rw [if_pos h, List.getElem?_take_of_lt h]
  · rw [if_neg h, List.getElem?_take, if_neg h]; rfl
/-- bytes behind a mark -/
theorem marked_det (e : Int) (he : 1 ≤ e ∧ e ≤ 5) (r : List Int) (hf : e = 3 → ¬ (atI r 0 = 0 ∧ atI r 1 = 0)) : detE (encU e 65279 ++ r) = e ∧ detM (encU e 65279 ++ r) = (encU e 65279).length := by
  have : e = 1 ∨ e = 2 ∨ e = 3 ∨ e = 4 ∨ e = 5 := by omega
  rcases this with rfl | rfl | rfl | rfl | rfl
  · have eq : encU 1 65279 = [239, 187, 191] := by decide
    rw [eq]; exact ⟨rfl, rfl⟩
  · have eq : encU 2 65279 = [254, 255] := by decide
    rw [eq]
    unfold detE detM
    show (dd 254 255 (atI r 0) (atI r 1)).1 = 2 ∧ (dd 254 255 (atI r 0) (atI r 1)).2.toNat = 2
    unfold dd d0 d1 d2 d3
    rw [if_neg (by omega), if_neg (by omega), if_neg (by omega), if_neg (by omega), if_pos (by omega)]
    exact ⟨rfl, rfl⟩
  · have eq : encU 3 65279 = [255, 254] := by decide
    rw [eq]
    have hf := hf rfl
    unfold detE detM
    show (dd 255 254 (atI r 0) (atI r 1)).1 = 3 ∧ (dd 255 254 (atI r 0) (atI r 1)).2.toNat = 2
    unfold dd d0 d1 d2 d3 d4 d5
    rw [if_neg (by omega), if_neg (by omega), if_neg (by omega), if_neg (by omega), if_neg (by omega), if_neg (by omega), if_pos (by omega)]
    exact ⟨rfl, rfl⟩
  · have eq : encU 4 65279 = [0, 0, 254, 255] := by decide
    rw [eq]; exact ⟨rfl, rfl⟩
  · have eq : encU 5 65279 = [255, 254, 0, 0] := by decide
    rw [eq]; exact ⟨rfl, rfl⟩
theorem encL_len4 (e : Int) : ∀ (d : Nat) (l : List UInt8), (encL e d l).length ≤ 4 * d
  | 0, l => Nat.le_refl 0
  | d + 1, l => by
    simp only [encL]
    split
    · exact Nat.zero_le _
    · rw [List.length_append]; have := encL_len4 e d (l.drop (nx l).2); have := encU_len e ((nx l).1 : Int); omega
end Go.Proofs.YtmpdggphhhljhaaDoor.UtfSpec
