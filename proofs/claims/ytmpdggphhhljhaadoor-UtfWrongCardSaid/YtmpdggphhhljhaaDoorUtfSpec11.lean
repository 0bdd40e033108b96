/- Texts as bytes and back: a scalar behind its bytes, a text behind its bytes. No conditions but sizes. -/
import Derived.Test.YtmpdggphhhljhaaDoorUtfSpec10
import Derived.Lib.MapLaws
namespace Go.Proofs.YtmpdggphhhljhaaDoor.UtfSpec
set_option linter.unusedSimpArgs false
set_option linter.unusedVariables false
open Go.RowKit Go.Proofs.YtmpdggphhhljhaaDoor.PC Go.Proofs.YtmpdggphhhljhaaDoorW.PrintWords Go.Proofs.YtmpdggphhhljhaaDoor.Aid Go.Proofs.YtmpdggphhhljhaaDoor.BrkFns
theorem isB.append {a b : List Int} (ha : isB a) (hb : isB b) : isB (a ++ b) := fun x hx => (List.mem_append.1 hx).elim (ha x) (hb x)
theorem isB_nil : isB [] := fun x hx => by cases hx
theorem isB_cons {a : Int} {l : List Int} (h : 0 ≤ a ∧ a ≤ 255) (hl : isB l) : isB (a :: l) := fun x hx => by
  rcases List.mem_cons.1 hx with rfl | hx
  · exact h
  · exact hl x hx
theorem b2_isB (t : Bool) (c : Int) : isB (b2 t c) := by
  unfold b2
  split <;> exact isB_cons (by omega) (isB_cons (by omega) isB_nil)
theorem b4_isB (t : Bool) (c : Int) : isB (b4 t c) := by
  unfold b4
  split <;> exact isB_cons (by omega) (isB_cons (by omega) (isB_cons (by omega) (isB_cons (by omega) isB_nil)))
theorem encU_isB (e c : Int) : isB (encU e c) := by
  unfold encU
  split
  · exact fun x hx => ⟨(Lib.encodeRuneZ_byte c x hx).1, by have := (Lib.encodeRuneZ_byte c x hx).2; omega⟩
  · split
    · split
      · exact (b2_isB _ _).append (b2_isB _ _)
      · exact b2_isB _ _
    · exact b4_isB _ _
theorem encL_isB (e : Int) : ∀ (d : Nat) (l : List UInt8), isB (encL e d l)
  | 0, _ => isB_nil
  | d + 1, l => by
    simp only [encL]
    split
    · exact isB_nil
    · exact (encU_isB _ _).append (encL_isB e d _)
theorem to8_append (a b : List Int) : to8 (a ++ b) = to8 a ++ to8 b := List.map_append
theorem ba_to8 (a : Int) (h : 0 ≤ a ∧ a ≤ 255) (l : List UInt8) : ba (UInt8.ofNat a.toNat :: l) 0 = (a.toNat : Int) := by
  show (((UInt8.ofNat a.toNat).toNat : Nat) : Int) = _
  rw [UInt8.toNat_ofNat']
  have : a.toNat % 2 ^ 8 = a.toNat := Nat.mod_eq_of_lt (by omega)
  rw [this]
theorem ba_cons (x : UInt8) (l : List UInt8) (i : Nat) : ba (x :: l) (i + 1) = ba l i := rfl
theorem nat_ba (l : List UInt8) (i : Nat) : ∃ n : Nat, ba l i = n := ⟨_, rfl⟩
/-- the scalar that UTF-8's bytes begin with -/
theorem nx_enc (c : Int) (hc : isScalar c = true) (r : List UInt8) : nx (to8 (Lib.encodeRuneZ c) ++ r) = (c.toNat, (Lib.encodeRuneZ c).length) := by
  have hs := of_decide_eq_true hc
  obtain ⟨h0, h1, h2⟩ := hs
  by_cases a1 : c ≤ 127
  · rw [Lib.encodeRuneZ_one h0 a1]
    show nx (UInt8.ofNat c.toNat :: r) = _
    have e0 := ba_to8 c (by omega) r
    obtain ⟨y1, e1⟩ := nat_ba (UInt8.ofNat c.toNat :: r) 1
    obtain ⟨y2, e2⟩ := nat_ba (UInt8.ofNat c.toNat :: r) 2
    obtain ⟨y3, e3⟩ := nat_ba (UInt8.ofNat c.toNat :: r) 3
    rw [nx_cases _ (by simp) _ _ _ _ e0 e1 e2 e3, if_pos (by omega)]
    rfl
  by_cases a2 : c ≤ 2047
  · rw [Lib.encodeRuneZ_two (by omega) a2]
    show nx (UInt8.ofNat (192 + c / 64).toNat :: UInt8.ofNat (128 + c % 64).toNat :: r) = _
    have e0 := ba_to8 (192 + c / 64) (by omega) (UInt8.ofNat (128 + c % 64).toNat :: r)
    have e1 := ba_to8 (128 + c % 64) (by omega) r
    rw [← ba_cons (UInt8.ofNat (192 + c / 64).toNat)] at e1
    obtain ⟨y2, e2⟩ := nat_ba (UInt8.ofNat (192 + c / 64).toNat :: UInt8.ofNat (128 + c % 64).toNat :: r) 2
    obtain ⟨y3, e3⟩ := nat_ba (UInt8.ofNat (192 + c / 64).toNat :: UInt8.ofNat (128 + c % 64).toNat :: r) 3
    rw [nx_cases _ (by simp) _ _ _ _ e0 e1 e2 e3, if_neg (by omega), if_pos (by omega), if_pos ⟨by simp only [List.length_cons]; omega, by omega, by omega, by omega⟩]
    exact Prod.ext (by dsimp only; omega) rfl
  by_cases a3 : c ≤ 65535
  · rw [Lib.encodeRuneZ_three (by omega)]
    show nx (UInt8.ofNat (224 + c / 4096).toNat :: UInt8.ofNat (128 + c / 64 % 64).toNat :: UInt8.ofNat (128 + c % 64).toNat :: r) = _
    have e0 := ba_to8 (224 + c / 4096) (by omega) (UInt8.ofNat (128 + c / 64 % 64).toNat :: UInt8.ofNat (128 + c % 64).toNat :: r)
    have e1 := ba_to8 (128 + c / 64 % 64) (by omega) (UInt8.ofNat (128 + c % 64).toNat :: r)
    rw [← ba_cons (UInt8.ofNat (224 + c / 4096).toNat)] at e1
    have e2 := ba_to8 (128 + c % 64) (by omega) r
    rw [← ba_cons (UInt8.ofNat (128 + c / 64 % 64).toNat), ← ba_cons (UInt8.ofNat (224 + c / 4096).toNat)] at e2
    obtain ⟨y3, e3⟩ := nat_ba (UInt8.ofNat (224 + c / 4096).toNat :: UInt8.ofNat (128 + c / 64 % 64).toNat :: UInt8.ofNat (128 + c % 64).toNat :: r) 3
    rw [nx_cases _ (by simp) _ _ _ _ e0 e1 e2 e3, if_neg (by omega), if_neg (by omega), if_pos (by omega), if_pos ⟨by simp only [List.length_cons]; omega, by omega, by omega, by omega, by omega, by omega, by omega⟩]
    exact Prod.ext (by dsimp only; omega) rfl
  · rw [Lib.encodeRuneZ_four (by omega) (by omega)]
    show nx (UInt8.ofNat (240 + c / 262144).toNat :: UInt8.ofNat (128 + c / 4096 % 64).toNat :: UInt8.ofNat (128 + c / 64 % 64).toNat :: UInt8.ofNat (128 + c % 64).toNat :: r) = _
    have e0 := ba_to8 (240 + c / 262144) (by omega) (UInt8.ofNat (128 + c / 4096 % 64).toNat :: UInt8.ofNat (128 + c / 64 % 64).toNat :: UInt8.ofNat (128 + c % 64).toNat :: r)
    have e1 := ba_to8 (128 + c / 4096 % 64) (by omega) (UInt8.ofNat (128 + c / 64 % 64).toNat :: UInt8.ofNat (128 + c % 64).toNat :: r)
    rw [← ba_cons (UInt8.ofNat (240 + c / 262144).toNat)] at e1
    have e2 := ba_to8 (128 + c / 64 % 64) (by omega) (UInt8.ofNat (128 + c % 64).toNat :: r)
    rw [← ba_cons (UInt8.ofNat (128 + c / 4096 % 64).toNat), ← ba_cons (UInt8.ofNat (240 + c / 262144).toNat)] at e2
    have e3 := ba_to8 (128 + c % 64) (by omega) r
    rw [← ba_cons (UInt8.ofNat (128 + c / 64 % 64).toNat), ← ba_cons (UInt8.ofNat (128 + c / 4096 % 64).toNat), ← ba_cons (UInt8.ofNat (240 + c / 262144).toNat)] at e3
    rw [nx_cases _ (by simp) _ _ _ _ e0 e1 e2 e3, if_neg (by omega), if_neg (by omega), if_neg (by omega), if_pos (by omega), if_pos ⟨by simp only [List.length_cons]; omega, by omega, by omega, by omega, by omega, by omega, by omega, by omega, by omega⟩]
    exact Prod.ext (by dsimp only; omega) rfl
theorem u2_b2 (t : Bool) (c : Int) (h : 0 ≤ c ∧ c < 65536) (r : List Int) : ∃ x y, b2 t c = [x, y] ∧ u2 t x y = c := by
  unfold b2 u2
  cases t
  · exact ⟨_, _, rfl, by simp only [Bool.false_eq_true, if_false]; omega⟩
  · exact ⟨_, _, rfl, by simp only [if_true]; omega⟩
theorem u4_b4 (t : Bool) (c : Int) (h : 0 ≤ c ∧ c < 4294967296) : ∃ x y z w, b4 t c = [x, y, z, w] ∧ u4 t x y z w = c := by
  unfold b4 u4
  cases t
  · exact ⟨_, _, _, _, rfl, by simp only [Bool.false_eq_true, if_false]; omega⟩
  · exact ⟨_, _, _, _, rfl, by simp only [if_true]; omega⟩
/-- a scalar's bytes, and whatever behind them, begin with that scalar -/
theorem scal_enc (e c : Int) (he : 1 ≤ e ∧ e ≤ 5) (hc : isScalar c = true) (r : List Int) : scal e (encU e c ++ r) = (c, ((encU e c).length : Int)) := by
  obtain ⟨h0, h1, h2⟩ := of_decide_eq_true hc
  unfold scal encU
  by_cases a1 : e = 1
  · rw [if_pos a1, if_pos a1, to8_append, nx_enc c hc]
    exact Prod.ext (by dsimp only; omega) rfl
  rw [if_neg a1, if_neg a1]
  by_cases a2 : e = 2 ∨ e = 3
  · rw [if_pos a2, if_pos a2]
    by_cases a3 : 65536 ≤ c
    · rw [if_pos a3]
      obtain ⟨x, y, e1, e2⟩ := u2_b2 (lit e) (55296 + (c - 65536) / 1024) (by omega) r
      obtain ⟨z, w, e3, e4⟩ := u2_b2 (lit e) (56320 + (c - 65536) % 1024) (by omega) r
      rw [e1, e3]
      show two (lit e) (x :: y :: z :: w :: r) = _
      rw [two_cons, e2, if_pos (by omega), low_cons, e4, if_neg (by omega)]
      exact Prod.ext (by dsimp only; omega) rfl
    · rw [if_neg a3]
      obtain ⟨x, y, e1, e2⟩ := u2_b2 (lit e) c (by omega) r
      rw [e1]
      show two (lit e) (x :: y :: r) = _
      rw [two_cons, e2, if_neg (by omega), if_pos hc]
      rfl
  · rw [if_neg a2, if_neg a2]
    obtain ⟨x, y, z, w, e1, e2⟩ := u4_b4 (lit e) c (by omega)
    rw [e1]
    show four (lit e) (x :: y :: z :: w :: r) = _
    rw [four_cons, e2, if_pos hc]
    rfl
/-- bytes as numbers -/
def nums (l : List UInt8) : List Int := l.map fun x => (x.toNat : Int)
theorem nums_append (a b : List UInt8) : nums (a ++ b) = nums a ++ nums b := List.map_append
theorem to8_nums : ∀ l : List UInt8, to8 (nums l) = l
  | [] => rfl
  | x :: l => by
    show UInt8.ofNat ((x.toNat : Int)).toNat :: to8 (nums l) = x :: l
    rw [to8_nums l, Int.toNat_natCast, UInt8.ofNat_toNat]
theorem str_nums (s : ByteArray) : strOfNums (nums s.data.toList) = s := ext_list (by rw [to8_data, to8_nums])
theorem nums_to8 : ∀ l : List Int, isB l → nums (to8 l) = l
  | [], _ => rfl
  | x :: l, h => by
    show ((UInt8.ofNat x.toNat).toNat : Int) :: nums (to8 l) = x :: l
    have := h.head
    rw [nums_to8 l h.tail, UInt8.toNat_ofNat', Nat.mod_eq_of_lt (by omega)]
    congr 1; omega
theorem nx_bytes {l : List UInt8} (h : (nx l).2 ≠ 0) : Lib.encodeRuneZ ((nx l).1 : Int) = nums (l.take (nx l).2) := by
  have hne : l ≠ [] := by rintro rfl; exact h rfl
  have hpos : 0 < l.length := List.length_pos_iff.2 hne
  have hs : (⟨l.toArray⟩ : ByteArray).size = l.length := by simp [ByteArray.size]
  have hd : (⟨l.toArray⟩ : ByteArray).data.toList = l := rfl
  have hnx := nx_decode ⟨l.toArray⟩ 0 (by rw [hs]; exact hpos)
  rw [hd, List.drop_zero] at hnx
  have hdec : Lib.decodeL l = Utf8.decode ⟨l.toArray⟩ 0 := rfl
  by_cases hq : Utf8.decode ⟨l.toArray⟩ 0 = (65533, 1)
  · rw [if_pos hq] at hnx; rw [hnx] at h; exact absurd rfl h
  · rw [if_neg hq, ← hdec] at hnx
    rw [← hdec] at hq
    have := Lib.encode_decode l hne (fun q => hq (Prod.ext q.1 q.2))
    rw [hnx, ← this]
    have hb : isB (Lib.encodeRuneZ ((Lib.decodeL l).1 : Int)) := fun x hx => ⟨(Lib.encodeRuneZ_byte _ x hx).1, by have := (Lib.encodeRuneZ_byte _ x hx).2; omega⟩
    exact (nums_to8 _ hb).symm
/-- bytes that are a text's: decoded they are the text -/
theorem dec_enc (e m : Int) (he : 1 ≤ e ∧ e ≤ 5) : ∀ (d : Nat) (l : List UInt8) (pre : List Int) (D : Nat) (o : List Int), l.length ≤ d → well l = true → (encL e d l).length ≤ D → decL e m (pre ++ encL e d l) D pre.length o = (e, m, strOfNums (o ++ nums l), 0, 0)
  | 0, l, pre, D, o, hd, hw, hD => by
    have : l = [] := List.length_eq_zero_iff.1 (by omega)
    subst this
    have e1 : encL e 0 ([] : List UInt8) = [] := rfl
    have e2 : nums ([] : List UInt8) = [] := rfl
    rw [e1, e2, List.append_nil, List.append_nil]
    cases D with
    | zero => rfl
    | succ D => simp only [decL]; rw [if_neg (by omega)]
  | d + 1, l, pre, D, o, hd, hw, hD => by
    by_cases hne : l = []
    · subst hne
      have e1 : encL e (d + 1) ([] : List UInt8) = [] := rfl
      have e2 : nums ([] : List UInt8) = [] := rfl
      rw [e1, e2, List.append_nil, List.append_nil]
      cases D with
      | zero => rfl
      | succ D => simp only [decL]; rw [if_neg (by omega)]
    · have hpos : 0 < l.length := List.length_pos_iff.2 hne
      obtain ⟨h0, hw2⟩ := well_step hw hne
      have hwd := nx_width l
      have hsc := nx_scalar l
      have hu0 : encU e ((nx l).1 : Int) ≠ [] := by
        intro q
        have h1 := scal_enc e _ he hsc []
        have h2 := (scal_ok e (encU e ((nx l).1 : Int) ++ []) ((encU_isB _ _).append isB_nil))
        unfold encU at q
        split at q
        · have := (Lib.encodeRuneZ_length ((nx l).1 : Int)).1; rw [q] at this; simp at this
        · split at q
          · split at q
            · have := congrArg List.length q; rw [List.length_append, b2_len, b2_len] at this; simp at this
            · have := congrArg List.length q; rw [b2_len] at this; simp at this
          · have := congrArg List.length q; rw [b4_len] at this; simp at this
      have hul : 0 < (encU e ((nx l).1 : Int)).length := List.length_pos_iff.2 hu0
      have hDD := hD
      simp only [encL, if_neg hne] at hDD
      rw [List.length_append] at hDD
      obtain ⟨D, rfl⟩ : ∃ j, D = j + 1 := ⟨D - 1, by omega⟩
      have ih := dec_enc e m he d (l.drop (nx l).2) (pre ++ encU e ((nx l).1 : Int)) D (o ++ Lib.encodeRuneZ ((nx l).1 : Int)) (by rw [List.length_drop]; omega) hw2 (by omega)
      simp only [encL, if_neg hne, decL]
      rw [if_pos (by rw [List.length_append, List.length_append]; omega), List.drop_left, scal_enc e _ he hsc, if_neg (by dsimp only; omega)]
      dsimp only
      rw [Int.toNat_natCast]
      rw [List.length_append, List.append_assoc] at ih
      rw [ih, nx_bytes h0, List.append_assoc, ← nums_append, List.take_append_drop]
/-- a text's signs: none is nought -/
theorem chk_step {l : List UInt8} (h : chk l = -1) (hne : l ≠ []) : (nx l).2 ≠ 0 ∧ (nx l).1 ≠ 0 ∧ chk (l.drop (nx l).2) = -1 := by
  unfold chk at h ⊢
  have hlen : 0 < l.length := List.length_pos_iff.2 hne
  obtain ⟨n, hn⟩ : ∃ n, l.length = n + 1 := ⟨l.length - 1, by omega⟩
  rw [hn] at h
  simp only [chkF, if_neg hne] at h
  by_cases h0 : mayW l = 0
  · rw [if_pos h0] at h; omega
  · rw [if_neg h0] at h
    obtain ⟨h1, h2⟩ := mayW_pos h0
    rw [h2] at h
    refine ⟨h1, ?_, ?_⟩
    · intro q
      unfold mayW at h0
      rw [q] at h0
      exact h0 rfl
    · rw [← chkF_none _ _ (0 + ((nx l).2 : Int)) 0 (by omega) (by omega), ← h]
      exact chkF_enough _ _ _ _ (Nat.le_refl _) (by rw [List.length_drop]; omega)
theorem chk_well : ∀ (n : Nat) (l : List UInt8), l.length ≤ n → chk l = -1 → well l = true
  | 0, l, h, _ => by
    have : l = [] := List.length_eq_zero_iff.1 (by omega)
    subst this; rfl
  | n + 1, l, h, hc => by
    by_cases hne : l = []
    · subst hne; rfl
    · obtain ⟨h0, _, h1⟩ := chk_step hc hne
      have hwd := nx_width l
      have ih := chk_well n (l.drop (nx l).2) (by rw [List.length_drop]; omega) h1
      unfold well at ih ⊢
      have hlen : 0 < l.length := List.length_pos_iff.2 hne
      obtain ⟨m, hm⟩ : ∃ m, l.length = m + 1 := ⟨l.length - 1, by omega⟩
      rw [hm]
      simp only [wellF, if_neg hne]
      rw [if_neg h0, ← ih]
      exact wellF_enough _ _ _ (by rw [List.length_drop]; omega) (Nat.le_refl _)
end Go.Proofs.YtmpdggphhhljhaaDoor.UtfSpec
